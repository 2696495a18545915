/- Contracts of functions of the given program, and lemmas about plain lists and numbers: what the laws of this seat lean on. -/
import Derived.Test.YtjnhoemgceghlaaGreatTs4
namespace Go.Proofs.YtjnhoemgceghlaaGreat
open Go.Eng Go.Sol
attribute [local irreducible] opK wpList Code.wp Exit.then Exit.inBlock fnPost bodyPost Nx Calls Oper.wp Rd Rds Wr Ent Stars Blk Again Vec FnSpec wpMix QRun Stop Upto wpAt
/-! The problem at the start: what it is -/
abbrev rwR (r : Row) : Res := iR r.1 r.2.1 r.2.2
theorem nil_rwR (n : Nat) {R : List Res} : Ent R (Stars ((List.replicate n ((none, 0, []) : Row)).map rwR) :: R) := by
  induction n with
  | zero => exact Ent.stars_nil _
  | succ n ih =>
    rw [List.replicate_succ']
    rw [List.map_append]
    exact ih.trans ((Ent.vec_nil _ _ _).trans Ent.bundle)
theorem inL_snoc (L : List Eqn) (q : Eqn) (c : Nat) : inL (L ++ [q]) c = inL L c ++ if c ∈ q.1 then [(L.length : Int)] else [] := by
  unfold inL
  rw [List.length_append, List.length_singleton, List.range_succ, List.filter_append, List.map_append]
  congr 1
  · congr 1
    refine List.filter_congr fun i hi => ?_
    have hi := List.mem_range.1 hi
    rw [List.getD_eq_getElem?_getD, List.getD_eq_getElem?_getD, List.getElem?_append_left hi]
  · have e : (L ++ [q]).getD L.length default = q := by rw [List.getD_eq_getElem?_getD, List.getElem?_append_right (Nat.le_refl _)]; simp
    by_cases h : c ∈ q.1
    · rw [if_pos h, List.filter_cons_of_pos (by rw [e]; exact decide_eq_true h)]; rfl
    · rw [if_neg h, List.filter_cons_of_neg (by rw [e]; simpa using h)]; rfl
theorem eqns_len (l : List EqR) : (eqns l).length = l.length := List.length_map _
theorem eqns_snoc {l : List EqR} {k : Nat} (h : k < l.length) : eqns (l.take (k + 1)) = eqns (l.take k) ++ [eqn (l.getD k default)] := by unfold eqns; rw [take_snocQ h, List.map_append]; rfl
theorem mem_eqn {n : Nat} {q : EqR} (hg : GoodE n q) {c : Nat} : c ∈ (eqn q).1 ↔ (c : Int) ∈ q.1.2.2 := by
  unfold eqn
  rw [List.mem_map]
  constructor
  · rintro ⟨x, hx, rfl⟩
    have := (hg.lt x hx).1
    rw [show ((x.toNat : Nat) : Int) = x by omega]; exact hx
  · intro h
    exact ⟨_, h, Int.toNat_natCast c⟩
theorem sumC_zero (n : Nat) : ∀ cs, sumC (List.replicate n 0) cs = 0
  | [] => rfl
  | c :: cs => by
    rw [sumC, sumC_zero n cs]
    rw [List.getD_eq_getElem?_getD, List.getElem?_replicate]
    split <;> rfl
def valsL (l : List EqR) : List Int := l.map (·.2)
def sizesL (l : List EqR) : List Int := l.map fun q => (q.1.2.2.length : Int)
theorem rest_start (n : Nat) (l : List EqR) : restL (eqns l) (List.replicate n 0) = valsL l := by
  unfold restL eqns valsL
  rw [List.map_map]
  refine List.map_congr_left fun q _ => ?_
  show q.2 - sumC _ _ = q.2
  rw [sumC_zero]; omega
theorem open_start {n : Nat} {l : List EqR} (hg : ∀ q ∈ l, GoodE n q) : openL (eqns l) (touch n (eqns l)) = sizesL l := by
  unfold openL sizesL
  rw [show eqns l = l.map eqn from rfl, List.map_map]
  refine List.map_congr_left fun q hq => ?_
  show ((openQ _ (eqn q) : Nat) : Int) = _
  unfold openQ
  rw [List.filter_eq_self.2 fun c hc => ?_]
  · show (((q.1.2.2.map Int.toNat).length : Nat) : Int) = _
    rw [List.length_map]
  · refine decide_eq_true (mem_touch.2 ⟨?_, eqn q, List.mem_map.2 ⟨q, hq, rfl⟩, hc⟩)
    have := (hg q hq).lt _ ((mem_eqn (hg q hq)).1 hc)
    omega
/-- What 'start' leaves. -/
def StartPost (n : Nat) (l : List EqR) (v : Value) (R' : List Res) : Prop :=
  ∃ (p : Pl) (Atd : Option Addr) (ctd : Nat) (Ai : Option Addr) (ci : Nat) (ins : List Row), v = .pointer (some ⟨p.b, 0, none⟩) ∧ p.tv = .slice Atd (touch n (eqns l)).length ctd ∧ p.iv = .slice Ai n ci ∧ ins.length = n ∧ (∀ c, c < n → (ins.getD c default).2.2 = inL (eqns l) c) ∧
    R' = [p.blk n l.length, iR p.Ar p.cr (valsL l), iR p.Ao p.co (sizesL l), iR p.At p.ct (List.replicate n 0), Vec 25 1 Ai n ci (ins.map rowV), Stars (ins.map rwR), iR Atd ctd ((touch n (eqns l)).map Int.ofNat)]
theorem vals_snoc {l : List EqR} {k : Nat} (h : k < l.length) : valsL (l.take (k + 1)) = valsL (l.take k) ++ [(l.getD k default).2] := by unfold valsL; rw [take_snocQ h, List.map_append]; rfl
theorem sizes_snoc {l : List EqR} {k : Nat} (h : k < l.length) : sizesL (l.take (k + 1)) = sizesL (l.take k) ++ [((l.getD k default).1.2.2.length : Int)] := by unfold sizesL; rw [take_snocQ h, List.map_append]; rfl
theorem vals_len (l : List EqR) : (valsL l).length = l.length := List.length_map _
theorem sizes_len (l : List EqR) : (sizesL l).length = l.length := List.length_map _
set_option maxRecDepth 10000 in
set_option maxHeartbeats 8000000 in
theorem start_tail (w : World) (F : Res) (A : Option Addr) (c : Nat) (l : List EqR) (n : Nat) (I : PH) (hl : Eqs I A c l) (hg : ∀ q ∈ l, GoodE n q) (hll : l.length ≤ 100000) (At : Option Addr) (ct bi bt b : Nat) :
    Nx ⟨Tryz.prog, 75, w⟩ [(0, .int .i64 (n : Int)), (1, .slice A l.length c), (5, .pointer (some ⟨b, 0, none⟩))] I [Blk b PT [.slice At (touch n (eqns l)).length ct, .slice (some ⟨bi, 0, none⟩) n n, .slice none 0 0, .slice none 0 0, .slice (some ⟨bt, 0, none⟩) n n], iR At ct ((touch n (eqns l)).map Int.ofNat), Vec 25 1 (some ⟨bi, 0, none⟩) n n (List.replicate n (.slice none 0 0)), Vec 3 1 (some ⟨bt, 0, none⟩) n n ((List.replicate n (0 : Int)).map (Value.int .i64)), F]
      (Code.wp Tryz.prog (cr (cr (bodyOf Tryz.f122))) (fnPost Tryz.prog Tryz.f122 I F w (StartPost n l))) := by
  have hlen := hl.len
  repeat' first
    | ((with_reducible refine Nx.is_wp ?_); first | refine Nx.wo ?_ | refine Nx.zp (fun hc => ?_) (fun hc => ?_))
    | (refine Nx.zo ?_; first | refine Nx.opr rfl rfl ?_ | refine Nx.so ?_ | refine Nx.sb (fun bx => ?_) | refine Nx.sa (fun A2 c2 => ?_))
    | ((with_reducible refine Nx.is_at ?_); first | refine Nx.a ?_ | refine Nx.zd ?_ | refine Nx.zs (fun hc => ?_) (fun hc => ?_))
    | ((with_reducible refine Nx.is_mix ?_); first | refine Nx.m ?_ | refine Nx.zm ?_ | refine Nx.zt (fun hc => ?_) (fun hc => ?_))
    | refine Nx.zx ?_ | fail
  refine Nx.p_loop (σ := Nat × Option Addr × Nat × Option Addr × Nat × List Row) (fun s => [(0, .int .i64 (n : Int)), (1, .slice A l.length c), (5, .pointer (some ⟨b, 0, none⟩)), (19, .slice A l.length c), (20, .int .i64 l.length), (21, .int .i64 (s.1 : Int))])
    (fun s => [Blk b PT [.slice At (touch n (eqns l)).length ct, .slice (some ⟨bi, 0, none⟩) n n, .slice s.2.1 (valsL (l.take s.1)).length s.2.2.1, .slice s.2.2.2.1 (sizesL (l.take s.1)).length s.2.2.2.2.1, .slice (some ⟨bt, 0, none⟩) n n], iR s.2.1 s.2.2.1 (valsL (l.take s.1)), iR s.2.2.2.1 s.2.2.2.2.1 (sizesL (l.take s.1)), Vec 25 1 (some ⟨bi, 0, none⟩) n n (s.2.2.2.2.2.map rowV), Stars (s.2.2.2.2.2.map rwR), iR At ct ((touch n (eqns l)).map Int.ofNat), Vec 3 1 (some ⟨bt, 0, none⟩) n n ((List.replicate n (0 : Int)).map (Value.int .i64)), F])
    (fun s => s.1 ≤ l.length ∧ s.2.2.2.2.2.length = n ∧ ∀ x, x < n → (s.2.2.2.2.2.getD x default).2.2 = inL (eqns (l.take s.1)) x) (fun s => l.length - s.1) (0, none, 0, none, 0, List.replicate n (none, 0, [])) rfl ⟨Nat.zero_le _, by simp, fun x hx => by rw [List.getD_eq_getElem?_getD, List.getElem?_replicate, if_pos hx]; rfl⟩ ⟨rfl, rfl, rfl, rfl, rfl, rfl, trivial⟩ ?_ ?_
  · have e0 : (List.replicate n ((none, 0, []) : Row)).map rowV = List.replicate n (.slice none 0 0) := by rw [List.map_replicate]; rfl
    dsimp only
    rw [e0]
    exact (nil_rwR n).trans ((Ent.vec_nil _ _ _).trans ((Ent.vec_nil _ _ _).trans (by (exact Ent.auto))))
  rintro ⟨k, Ar, crr, Ao, coo, ins⟩ ⟨hk, hil, hins⟩
  dsimp only at hk hil hins ⊢
  by_cases hlt : k < l.length
  case neg =>
    obtain rfl : k = l.length := by omega
    rw [List.take_length] at hins ⊢
    repeat' first
      | ((with_reducible refine Nx.is_wp ?_); first | refine Nx.wo ?_ | refine Nx.zp (fun hc => ?_) (fun hc => ?_))
      | (refine Nx.zo ?_; first | refine Nx.opr rfl rfl ?_ | refine Nx.so ?_ | refine Nx.sb (fun bx => ?_) | refine Nx.sa (fun A2 c2 => ?_))
      | ((with_reducible refine Nx.is_at ?_); first | refine Nx.a ?_ | refine Nx.zd ?_ | refine Nx.zs (fun hc => ?_) (fun hc => ?_))
      | ((with_reducible refine Nx.is_mix ?_); first | refine Nx.m ?_ | refine Nx.zm ?_ | refine Nx.zt (fun hc => ?_) (fun hc => ?_))
      | refine Nx.zx ?_ | fail
    refine Nx.ret_fn rfl [_, _, _, _, _, _, _] ⟨⟨b, _, _, Ar, crr, Ao, coo, some ⟨bt, 0, none⟩, n⟩, At, ct, some ⟨bi, 0, none⟩, n, ins, rfl, rfl, rfl, hil, hins, rfl⟩ ?_
    unfold Pl.blk iR
    rw [vals_len, sizes_len, List.length_replicate]
    (exact Ent.auto)
  have hin := hl.inner _ (getD_memQ hlt)
  have hgk := hg _ (getD_memQ hlt)
  have hvs := vals_snoc hlt
  have hss := sizes_snoc hlt
  have hes := eqns_snoc hlt
  have hrds : ∀ (W : World) (R : List Res), Rds W I R ((ad A).add (k * 2)) (eqC (l.getD k default)) := fun W R => hl.outer.rds hlt
  generalize l.getD k default = q at *
  obtain ⟨⟨Ax, cx, ix⟩, z⟩ := q
  dsimp only at hin hvs hss
  replace hrds : ∀ (W : World) (R : List Res), Rds W I R ((ad A).add (k * 2)) [.slice Ax ix.length cx, .int .i64 z] := hrds
  have hixl := hin.len
  repeat' first
    | ((with_reducible refine Nx.is_wp ?_); first | refine Nx.wo ?_ | refine Nx.zp (fun hc => ?_) (fun hc => ?_))
    | (refine Nx.zo ?_; first | refine Nx.opr rfl rfl ?_ | refine Nx.indexAddr_nat rfl rfl rfl rfl rfl (by omega) (hl.outer.isSome (by omega) (by omega)) ?_ | refine Nx.loads rfl rfl rfl rfl (hrds _ _) rfl ?_ | refine Nx.so ?_ | refine Nx.sb (fun bx => ?_) | refine Nx.sa (fun A2 c2 => ?_))
    | ((with_reducible refine Nx.is_at ?_); first | refine Nx.a ?_ | refine Nx.zd ?_ | refine Nx.zs (fun hc => ?_) (fun hc => ?_))
    | ((with_reducible refine Nx.is_mix ?_); first | refine Nx.m ?_ | refine Nx.zm ?_ | refine Nx.zt (fun hc => ?_) (fun hc => ?_))
    | refine Nx.zx ?_ | fail
  revert bx; intro b7
  have hvl : (valsL (l.take k)).length ≤ 1000000 := by rw [vals_len, List.length_take]; omega
  have hsl : (sizesL (l.take k)).length ≤ 1000000 := by rw [sizes_len, List.length_take]; omega
  refine Nx.weak (e' := [(0, .int .i64 (n : Int)), (1, .slice A l.length c), (5, .pointer (some ⟨b, 0, none⟩)), (6, .int .i64 (k : Int)), (7, .pointer (some ⟨b7, 0, none⟩)), (19, .slice A l.length c), (20, .int .i64 (l.length : Int)), (21, .int .i64 (k : Int))]) (by exact ⟨rfl, rfl, rfl, rfl, rfl, rfl, rfl, rfl, trivial⟩)
    (R' := Blk b PT [.slice At (touch n (eqns l)).length ct, .slice (some ⟨bi, 0, none⟩) n n, .slice Ar (valsL (l.take k)).length crr, .slice Ao (sizesL (l.take k)).length coo, .slice (some ⟨bt, 0, none⟩) n n] :: Blk b7 140 [.slice Ax ix.length cx, .int .i64 z] :: iR Ar crr (valsL (l.take k)) :: iR Ao coo (sizesL (l.take k)) :: [Vec 25 1 (some ⟨bi, 0, none⟩) n n (ins.map rowV), Stars (ins.map rwR), iR At ct ((touch n (eqns l)).map Int.ofNat), Vec 3 1 (some ⟨bt, 0, none⟩) n n ((List.replicate n (0 : Int)).map (Value.int .i64)), F]) (by (exact Ent.auto))
    (start_r5 w _ _ (by repeat first | exact PanicOk.fn | refine PanicOk.then_ ?_ | refine PanicOk.inB ?_) [Vec 25 1 (some ⟨bi, 0, none⟩) n n (ins.map rowV), Stars (ins.map rwR), iR At ct ((touch n (eqns l)).map Int.ofNat), Vec 3 1 (some ⟨bt, 0, none⟩) n n ((List.replicate n (0 : Int)).map (Value.int .i64)), F] (.int .i64 (n : Int)) (.slice A l.length c) (.slice A l.length c) (.slice At (touch n (eqns l)).length ct) (.slice (some ⟨bi, 0, none⟩) n n) (.slice (some ⟨bt, 0, none⟩) n n) b b7 l.length k k Ar Ao Ax crr coo cx (valsL (l.take k)) (sizesL (l.take k)) ix z I hvl hsl fun A7 c7 A8 c8 => ?_)
  rw [← hvs, ← hss]
  repeat' first
    | ((with_reducible refine Nx.is_wp ?_); first | refine Nx.wo ?_ | refine Nx.zp (fun hc => ?_) (fun hc => ?_))
    | (refine Nx.zo ?_; first | refine Nx.opr rfl rfl ?_ | refine Nx.so ?_ | refine Nx.sb (fun bx => ?_) | refine Nx.sa (fun A2 c2 => ?_))
    | ((with_reducible refine Nx.is_at ?_); first | refine Nx.a ?_ | refine Nx.zd ?_ | refine Nx.zs (fun hc => ?_) (fun hc => ?_))
    | ((with_reducible refine Nx.is_mix ?_); first | refine Nx.m ?_ | refine Nx.zm ?_ | refine Nx.zt (fun hc => ?_) (fun hc => ?_))
    | refine Nx.zx ?_ | fail
  refine Nx.p_loop (σ := Nat × List Row) (fun s => [(0, .int .i64 (n : Int)), (1, .slice A l.length c), (5, .pointer (some ⟨b, 0, none⟩)), (6, .int .i64 (k : Int)), (19, .slice A l.length c), (20, .int .i64 l.length), (21, .int .i64 (k : Int)), (50, .slice Ax ix.length cx), (51, .int .i64 ix.length), (52, .int .i64 (s.1 : Int))])
    (fun s => [Blk b PT [.slice At (touch n (eqns l)).length ct, .slice (some ⟨bi, 0, none⟩) n n, .slice A7 (valsL (l.take (k + 1))).length c7, .slice A8 (sizesL (l.take (k + 1))).length c8, .slice (some ⟨bt, 0, none⟩) n n], iR A7 c7 (valsL (l.take (k + 1))), iR A8 c8 (sizesL (l.take (k + 1))), Vec 25 1 (some ⟨bi, 0, none⟩) n n (s.2.map rowV), Stars (s.2.map rwR), iR At ct ((touch n (eqns l)).map Int.ofNat), Vec 3 1 (some ⟨bt, 0, none⟩) n n ((List.replicate n (0 : Int)).map (Value.int .i64)), F])
    (fun s => s.1 ≤ ix.length ∧ s.2.length = n ∧ ∀ x, x < n → (s.2.getD x default).2.2 = inL (eqns (l.take k)) x ++ if (x : Int) ∈ ix.take s.1 then [(k : Int)] else []) (fun s => ix.length - s.1) (0, ins) rfl ⟨Nat.zero_le _, hil, fun x hx => by rw [hins x hx]; simp⟩ ⟨rfl, rfl, rfl, rfl, rfl, rfl, rfl, rfl, rfl, rfl, trivial⟩ (by (exact Ent.auto)) ?_
  rintro ⟨j, o⟩ ⟨hj, hol, ho⟩
  dsimp only at hj hol ho ⊢
  by_cases hjl : j < ix.length
  case neg =>
    obtain rfl : j = ix.length := by omega
    repeat' first
      | ((with_reducible refine Nx.is_wp ?_); first | refine Nx.wo ?_ | refine Nx.zp (fun hc => ?_) (fun hc => ?_))
      | (refine Nx.zo ?_; first | refine Nx.opr rfl rfl ?_ | refine Nx.so ?_ | refine Nx.sb (fun bx => ?_) | refine Nx.sa (fun A2 c2 => ?_))
      | ((with_reducible refine Nx.is_at ?_); first | refine Nx.a ?_ | refine Nx.zd ?_ | refine Nx.zs (fun hc => ?_) (fun hc => ?_))
      | ((with_reducible refine Nx.is_mix ?_); first | refine Nx.m ?_ | refine Nx.zm ?_ | refine Nx.zt (fun hc => ?_) (fun hc => ?_))
      | refine Nx.zx ?_ | fail
    refine Nx.again (k + 1, A7, c7, A8, c8, o) ⟨hlt, hol, fun x hx => ?_⟩ (by dsimp only; omega) ⟨rfl, rfl, rfl, rfl, rfl, rfl, trivial⟩ (by (exact Ent.auto))
    dsimp only
    rw [ho x hx, hes, inL_snoc, List.take_length, eqns_len, List.length_take, Nat.min_eq_left (by omega)]
    congr 1
    by_cases hm : (x : Int) ∈ ix
    · rw [if_pos hm, if_pos ((mem_eqn hgk).2 hm)]
    · rw [if_neg hm, if_neg fun h => hm ((mem_eqn hgk).1 h)]
  have hixj := hgk.lt (ix.getD j default) (by rw [List.getD_eq_getElem?_getD, List.getElem?_eq_getElem hjl]; exact List.getElem_mem _)
  obtain ⟨y, hy⟩ : ∃ y : Nat, ix.getD j default = (y : Int) := ⟨(ix.getD j default).toNat, by omega⟩
  have hyn : y < n := by omega
  have hixr : ∀ (W : World) (R : List Res), Rd W I R ((ad Ax).add (j * 1)) (.int .i64 (y : Int)) := fun W R => by rw [← hy]; exact hin.rd hjl
  have hoy := ho y hyn
  have hget : (o.map rwR)[y]? = some (rwR (o.getD y default)) := by
    rw [List.getElem?_map, List.getElem?_eq_getElem (by omega), List.getD_eq_getElem?_getD, List.getElem?_eq_getElem (by omega)]; rfl
  have hrv : ∀ (W : World) (R : List Res), Rd W I (Vec 25 1 (some ⟨bi, 0, none⟩) n n (o.map rowV) :: R) ((ad (some ⟨bi, 0, none⟩)).add (y * 1)) (rowV (o.getD y default)) := fun W R => Rd.vecEl 0 (f := rowV) (l := o) (i := y) rfl (by omega)
  have hyj : (y : Int) ∉ ix.take j := fun hm => by
    obtain ⟨a, ha, he⟩ := List.mem_iff_getElem.1 hm
    rw [List.length_take] at ha
    rw [List.getElem_take] at he
    have hlt2 := (List.pairwise_iff_getElem.1 hgk.asc) a j (by dsimp only; omega) hjl (by omega)
    dsimp only at hlt2
    rw [List.getD_eq_getElem?_getD, List.getElem?_eq_getElem hjl] at hy
    have hy : ix[j] = (y : Int) := hy
    omega
  rw [if_neg hyj, List.append_nil] at hoy
  have hrow9 := inL_len (eqns (l.take k)) y
  rw [← hoy, eqns_len, List.length_take] at hrow9
  refine Nx.ent (R' := [Stars (o.map rwR), Vec 25 1 (some ⟨bi, 0, none⟩) n n (o.map rowV), Blk b PT [.slice At (touch n (eqns l)).length ct, .slice (some ⟨bi, 0, none⟩) n n, .slice A7 (valsL (l.take (k + 1))).length c7, .slice A8 (sizesL (l.take (k + 1))).length c8, .slice (some ⟨bt, 0, none⟩) n n], iR A7 c7 (valsL (l.take (k + 1))), iR A8 c8 (sizesL (l.take (k + 1))), iR At ct ((touch n (eqns l)).map Int.ofNat), Vec 3 1 (some ⟨bt, 0, none⟩) n n ((List.replicate n (0 : Int)).map (Value.int .i64)), F]) (by (exact Ent.auto)) ?_
  refine Nx.ent (Ent.takeOut y hget) ?_
  generalize hrow' : o.getD y default = rw' at hoy hget hrv hrow9
  obtain ⟨Ay, cy, row⟩ := rw'
  dsimp only at hoy hrow9
  replace hrv : ∀ (W : World) (R : List Res), Rd W I (Vec 25 1 (some ⟨bi, 0, none⟩) n n (o.map rowV) :: R) ((ad (some ⟨bi, 0, none⟩)).add (y * 1)) (.slice Ay row.length cy) := hrv
  refine Nx.ent (R' := [Vec 3 1 Ay row.length cy (row.map (Value.int .i64)), Vec 25 1 (some ⟨bi, 0, none⟩) n n (o.map rowV), Stars ((o.map rwR).eraseIdx y), Blk b PT [.slice At (touch n (eqns l)).length ct, .slice (some ⟨bi, 0, none⟩) n n, .slice A7 (valsL (l.take (k + 1))).length c7, .slice A8 (sizesL (l.take (k + 1))).length c8, .slice (some ⟨bt, 0, none⟩) n n], iR A7 c7 (valsL (l.take (k + 1))), iR A8 c8 (sizesL (l.take (k + 1))), iR At ct ((touch n (eqns l)).map Int.ofNat), Vec 3 1 (some ⟨bt, 0, none⟩) n n ((List.replicate n (0 : Int)).map (Value.int .i64)), F]) (by unfold rwR iR; (exact Ent.auto)) ?_
  repeat' first
    | ((with_reducible refine Nx.is_wp ?_); first | refine Nx.wo ?_ | refine Nx.p_drawF (id := 9) rfl [0, 1, 2, 3, 4, 5, 6, 7, 8, 9, 10, 11, 12, 13, 14, 15] [13, 14] [16] _ rfl rfl (by kernel_rfl) (by kernel_rfl) rfl (by repeat first | exact PanicOk.fn | refine PanicOk.then_ ?_ | refine PanicOk.inB ?_) (Ent.eraseK 0 _) ?_ | refine Nx.zp (fun hc => ?_) (fun hc => ?_))
    | (refine Nx.zo ?_; first | refine Nx.opr rfl rfl ?_ | refine Nx.indexAddr_nat rfl rfl rfl rfl rfl (by omega) (hin.isSome (by omega)) ?_ | refine Nx.load rfl rfl rfl (hixr _ _) ?_ | refine Nx.store_of 1 rowV (z := (A2, c2, row ++ [(k : Int)])) rfl (by unfold rowV; dsimp only; rw [List.length_append]; rfl) rfl rfl rfl rfl (by omega) ?_ | refine Nx.so ?_ | refine Nx.sb (fun bx => ?_) | refine Nx.sa (fun A2 c2 => ?_))
    | ((with_reducible refine Nx.is_at ?_); first | refine Nx.a ?_ | refine Nx.zd ?_ | refine Nx.zs (fun hc => ?_) (fun hc => ?_))
    | ((with_reducible refine Nx.is_mix ?_); first | refine Nx.m_quiet rfl rfl rfl rfl rfl (by first | exact QRun.opr rfl | exact QRun.idx rfl rfl rfl rfl (by omega) rfl | exact QRun.load rfl rfl (hrv _ _)) ?_ | refine Nx.m_quiet_do rfl rfl rfl rfl rfl rfl rfl (by first | exact QRun.opr rfl | exact QRun.idx rfl rfl rfl rfl (by omega) rfl | exact QRun.load rfl rfl (hrv _ _)) ?_ | refine Nx.m ?_ | refine Nx.zm ?_ | refine Nx.zt (fun hc => ?_) (fun hc => ?_))
    | refine Nx.zx ?_ | fail
  refine Nx.again (j + 1, o.set y (A2, c2, row ++ [(k : Int)])) ⟨hjl, by dsimp only; rw [List.length_set]; exact hol, fun x hx => ?_⟩ (by dsimp only; omega) ⟨rfl, rfl, rfl, rfl, rfl, rfl, rfl, rfl, rfl, rfl, trivial⟩ ?_
  · dsimp only
    rw [take_snocJ hjl, hy]
    by_cases hxy : x = y
    · subst hxy
      rw [List.getD_eq_getElem?_getD, List.getElem?_set_self (by omega), if_pos (by simp), ← hoy]
      rfl
    · rw [List.getD_eq_getElem?_getD, List.getElem?_set_ne (Ne.symm hxy), ← List.getD_eq_getElem?_getD, ho x hx]
      congr 1
      have e : ((x : Int) ∈ ix.take j ++ [(y : Int)]) ↔ (x : Int) ∈ ix.take j := by
        rw [List.mem_append, List.mem_singleton]
        exact ⟨fun h => h.resolve_right (by omega), .inl⟩
      by_cases hm : (x : Int) ∈ ix.take j
      · rw [if_pos hm, if_pos (e.2 hm)]
      · rw [if_neg hm, if_neg fun h => hm (e.1 h)]
  · dsimp only
    have hS : (o.set y (A2, c2, row ++ [(k : Int)])).map rwR = (o.map rwR).set y (rwR (A2, c2, row ++ [(k : Int)])) := List.map_set
    rw [hS]
    have hput := Ent.putIn y (B := o.map rwR) (R := [Blk b PT [.slice At (touch n (eqns l)).length ct, .slice (some ⟨bi, 0, none⟩) n n, .slice A7 (valsL (l.take (k + 1))).length c7, .slice A8 (sizesL (l.take (k + 1))).length c8, .slice (some ⟨bt, 0, none⟩) n n], iR A7 c7 (valsL (l.take (k + 1))), iR A8 c8 (sizesL (l.take (k + 1))), Vec 25 1 (some ⟨bi, 0, none⟩) n n ((o.set y (A2, c2, row ++ [(k : Int)])).map rowV), iR At ct ((touch n (eqns l)).map Int.ofNat), Vec 3 1 (some ⟨bt, 0, none⟩) n n ((List.replicate n (0 : Int)).map (Value.int .i64)), F]) (r := rwR (A2, c2, row ++ [(k : Int)])) (by rw [List.length_map]; omega)
    refine Ent.trans ?_ (hput.trans (by (exact Ent.auto)))
    unfold rwR iR
    dsimp only
    rw [List.length_append, List.map_append]
    (exact Ent.auto)
set_option maxRecDepth 10000 in
set_option maxHeartbeats 8000000 in
theorem start_spec (A : Option Addr) (c : Nat) (l : List EqR) (n : Nat) (I : PH) (hl : Eqs I A c l) (hg : ∀ q ∈ l, GoodE n q) (hn : n ≤ 4096) (hll : l.length ≤ 100000) (h9 : (allC l).length ≤ 1000000) :
    FnSpec Tryz.prog 122 [.int .i64 (n : Int), .slice A l.length c] I [] (StartPost n l) := by
  refine FnSpec.enterP Tryz.func122 rfl Tryz.ntmps122 rfl fun w F => ?_
  repeat' first
    | ((with_reducible refine Nx.is_wp ?_); first | refine Nx.wo ?_ | refine Nx.zp (fun hc => ?_) (fun hc => ?_))
    | (refine Nx.zo ?_; first | refine Nx.opr rfl rfl ?_ | refine Nx.so ?_ | refine Nx.sb (fun bx => ?_) | refine Nx.sa (fun A2 c2 => ?_))
    | ((with_reducible refine Nx.is_at ?_); first | refine Nx.a ?_ | refine Nx.zd ?_ | refine Nx.zs (fun hc => ?_) (fun hc => ?_))
    | ((with_reducible refine Nx.is_mix ?_); first | refine Nx.m ?_ | refine Nx.zm ?_ | refine Nx.zt (fun hc => ?_) (fun hc => ?_))
    | refine Nx.zx ?_ | fail
  exact Nx.weak (by exact ⟨rfl, rfl, trivial⟩) (by (exact Ent.auto)) (start_r1 w _ _ (by repeat first | exact PanicOk.fn | refine PanicOk.then_ ?_ | refine PanicOk.inB ?_) F A c l n I hl hg hn h9 fun At ct bi bt b => start_tail w F A c l n I hl hg hll At ct bi bt b)
end Go.Proofs.YtjnhoemgceghlaaGreat
/- Contracts of functions of the given program, and lemmas about plain lists and numbers: what the laws of this seat lean on. -/
namespace Go.Proofs.YtjnhoemgceghlaaGreat
open Go.Eng Go.Sol
attribute [local irreducible] opK wpList Code.wp Exit.then Exit.inBlock fnPost bodyPost Nx Calls Oper.wp Rd Rds Wr Ent Stars Blk Again Vec FnSpec wpMix QRun Stop Upto wpAt
theorem unstopN {C : Cx} {e : Env} {I : PH} {R : List Res} {K : Act → World → Prop} (h : Nx C e I R K) : Nx C e I R (Stop K) := by unfold Stop; exact h
/-! The problem is given up, but for what is left of the equations and the table -/
theorem started {C : Cx} {e : Env} {I : PH} {R RR : List Res} {K : Act → World → Prop} {p : Pl} {Atd Ai : Option Addr} {ctd ci n : Nat} {ins : List Row} {L : List Eqn} {td : List Nat} (hiv : p.iv = .slice Ai n ci) (hil : ins.length = n) (hins : ∀ c, c < n → (ins.getD c default).2.2 = inL L c)
    (hR : Ent R (Vec 25 1 Ai n ci (ins.map rowV) :: Stars (ins.map rwR) :: iR Atd ctd (td.map Int.ofNat) :: RR)) (h : ∀ I', PH.le I I' → InI I' p n L → Ints I' Atd ctd (td.map Int.ofNat) → Nx C e I' RR K) : Nx C e I R K := by
  refine Nx.ent hR ?_
  refine Nx.freezeAt 0 rfl fun I1 m1 hI1 hm1 h1 => ?_
  refine Nx.freezeAt 0 rfl fun I2 m2 hI2 hm2 h2 => ?_
  refine Nx.freezeAt 0 rfl fun I3 m3 hI3 hm3 h3 => ?_
  subst hil
  refine h I3 ((hI1.trans hI2).trans hI3) ⟨Ai, ci, ins, hiv, rfl, Vec.sliceOf ((hm1.trans hI2).trans hI3) h1, fun x hx => ?_, hins⟩ (Vec.sliceOf hm3 h3)
  obtain ⟨k, hk, rfl⟩ := List.mem_iff_getElem.1 hx
  obtain ⟨m', hle, hr⟩ := Stars.get k h2 (r := rwR ins[k]) (by rw [nthL_eq, List.getElem?_map, List.getElem?_eq_getElem hk]; rfl)
  exact Vec.sliceOf (t := 3) (hle.trans (hm2.trans hI3)) hr
/-! The functions that are shown the solutions -/
abbrev someT (bo : Nat) (s : Option Addr × Nat × List Row) : Res := Stars [Blk bo 33 [.slice s.1 s.2.2.length s.2.1], Vec 25 1 s.1 s.2.2.length s.2.1 (s.2.2.map rowV), Stars (s.2.2.map rwR)]
def someP (s : Option Addr × Nat × List Row) : List (List Int) := s.2.2.map (·.2.2)
def someF (most : Int) (p : List (List Int)) (tab : List Int) : List (List Int) × Bool := (p ++ [tab], decide ((p.length : Int) + 1 < most))
set_option maxRecDepth 10000 in
set_option maxHeartbeats 4000000 in
theorem someF_spec (bo bm : Nat) (most : Int) (hm : most ≤ 1000000) (I : PH) (n : Nat) (hb : ∀ (W : World) (R : List Res), Rd W I R ⟨bm, 0, none⟩ (.int .i64 most)) :
    Found 124 [.pointer (some ⟨bo, 0, none⟩), .pointer (some ⟨bm, 0, none⟩)] I n (someT bo) someP (fun p => (p.length : Int) < most) (someF most) := by
  refine ⟨by kernel_rfl, fun s A c tab htl hok => ?_⟩
  obtain ⟨A1, c1, o⟩ := s
  have hol : (o.length : Int) < most := by unfold someP at hok; rw [List.length_map] at hok; exact hok
  have e1 : someF most (someP (A1, c1, o)) tab = (someP (A1, c1, o) ++ [tab], decide ((o.length : Int) + 1 < most)) := by unfold someF someP; rw [List.length_map]
  rw [e1]
  refine FnSpec.enterP Tryz.func124 rfl Tryz.ntmps124 rfl fun w F => ?_
  refine Nx.ent (R' := [Blk bo 33 [.slice A1 o.length c1], Vec 25 1 A1 o.length c1 (o.map rowV), Stars (o.map rwR), iR A c tab, F]) (Ent.unstars.trans (by (exact Ent.auto))) ?_
  repeat' first
    | ((with_reducible refine Nx.is_wp ?_); first | refine Nx.wo ?_ | refine Nx.zp (fun hc => ?_) (fun hc => ?_))
    | (refine Nx.zo ?_; first | refine Nx.opr rfl rfl ?_ | refine Nx.load rfl rfl rfl (hb _ _) ?_ | refine Nx.so ?_ | refine Nx.sb (fun bx => ?_) | refine Nx.sa (fun A2 c2 => ?_))
    | ((with_reducible refine Nx.is_at ?_); first | refine Nx.a ?_ | refine Nx.zd ?_ | refine Nx.zs (fun hc => ?_) (fun hc => ?_))
    | ((with_reducible refine Nx.is_mix ?_); first | refine Nx.m ?_ | refine Nx.zm ?_ | refine Nx.zt (fun hc => ?_) (fun hc => ?_))
    | refine Nx.zx ?_ | fail
  refine Nx.ret_fn rfl [someT bo (A2, c2, o ++ [(A, c, tab)])] ⟨congrArg Value.bool (decide_eq_decide.2 (by omega)), (A2, c2, o ++ [(A, c, tab)]), by unfold someP; simp, fun h => ?_, rfl⟩ ?_
  · have h := of_decide_eq_true h
    unfold someP
    simp only [List.length_map, List.length_append, List.length_singleton]
    omega
  · unfold someT
    dsimp only
    rw [List.length_append, List.map_append, List.map_append]
    exact Ent.trans (R' := iR A c tab :: Stars (o.map rwR) :: [Blk bo 33 [.slice A2 (o.length + 1) c2], Vec 25 1 A2 (o.length + 1) c2 (o.map rowV ++ [.slice A tab.length c]), F]) (by (exact Ent.auto)) (Ent.bundle.trans (Ent.trans (R' := [Blk bo 33 [.slice A2 (o.length + 1) c2], Vec 25 1 A2 (o.length + 1) c2 (o.map rowV ++ [.slice A tab.length c]), Stars (o.map rwR ++ [iR A c tab])] ++ [F]) (by (exact Ent.auto)) Ent.stars))
abbrev extT (bo : Nat) (s : Option Addr × Nat × List Int) : Res := Stars [Blk bo 25 [.slice s.1 s.2.2.length s.2.1], iR s.1 s.2.1 s.2.2]
def extP (s : Option Addr × Nat × List Int) : List Int := s.2.2
def extF (_ : List Int) (tab : List Int) : List Int × Bool := (tab, false)
set_option maxRecDepth 10000 in
set_option maxHeartbeats 4000000 in
theorem extF_spec (bo : Nat) (I : PH) (n : Nat) : Found 168 [.pointer (some ⟨bo, 0, none⟩)] I n (extT bo) extP (fun _ => True) extF := by
  refine ⟨by kernel_rfl, fun s A c tab htl _ => ?_⟩
  obtain ⟨A1, c1, o⟩ := s
  refine FnSpec.enterP Tryz.func168 rfl Tryz.ntmps168 rfl fun w F => ?_
  refine Nx.ent (R' := [Blk bo 25 [.slice A1 o.length c1], iR A1 c1 o, iR A c tab, F]) (Ent.unstars.trans (by (exact Ent.auto))) ?_
  repeat' first
    | ((with_reducible refine Nx.is_wp ?_); first | refine Nx.wo ?_ | refine Nx.zp (fun hc => ?_) (fun hc => ?_))
    | (refine Nx.zo ?_; first | refine Nx.opr rfl rfl ?_ | refine Nx.so ?_ | refine Nx.sb (fun bx => ?_) | refine Nx.sa (fun A2 c2 => ?_))
    | ((with_reducible refine Nx.is_at ?_); first | refine Nx.a ?_ | refine Nx.zd ?_ | refine Nx.zs (fun hc => ?_) (fun hc => ?_))
    | ((with_reducible refine Nx.is_mix ?_); first | refine Nx.m ?_ | refine Nx.zm ?_ | refine Nx.zt (fun hc => ?_) (fun hc => ?_))
    | refine Nx.zx ?_ | fail
  exact Nx.ret_fn rfl [extT bo (A, c, tab)] ⟨rfl, (A, c, tab), rfl, fun _ => trivial, rfl⟩ (Ent.trans (R' := [Blk bo 25 [.slice A tab.length c], iR A c tab] ++ [F]) (by (exact Ent.auto)) Ent.stars)
theorem someF_take (most : Nat) : ∀ (L p : List (List Int)), p.length < most → (foldStop (someF most) p L).1 = p ++ L.take (most - p.length)
  | [], p, h => by simp [foldStop]
  | x :: L, p, h => by
    unfold foldStop
    obtain ⟨m, hm⟩ : ∃ m, most - p.length = m + 1 := ⟨most - p.length - 1, by omega⟩
    rw [hm, List.take_succ_cons]
    by_cases hlt : p.length + 1 < most
    · rw [if_pos (show (someF most p x).2 = true from decide_eq_true (by omega))]
      show (foldStop (someF most) (p ++ [x]) L).1 = _
      rw [someF_take most L (p ++ [x]) (by simpa using hlt), List.append_assoc, List.length_append, List.length_singleton, show most - (p.length + 1) = m by omega]
      rfl
    · rw [if_neg (show ¬(someF most p x).2 = true from by unfold someF; simp; omega), show m = 0 by omega]
      rfl
/-- All solutions. -/
def solsOf (n : Nat) (L : List Eqn) : List (List Int) := enum 1000000 L false (touch n L) (List.replicate n 0)
theorem toNat_asc {xs : List Int} (h : xs.Pairwise (· < ·)) (h0 : ∀ x ∈ xs, 0 ≤ x) : (xs.map Int.toNat).Pairwise (· < ·) := by
  rw [List.pairwise_map]
  refine List.Pairwise.imp_of_mem (fun ha hb hab => ?_) h
  have := h0 _ ha; have := h0 _ hb
  omega
theorem eqn_nd {n : Nat} {q : EqR} (hg : GoodE n q) : (eqn q).1.Nodup := (toNat_asc hg.asc fun x hx => (hg.lt x hx).1).imp fun h => Nat.ne_of_lt h
theorem sane_eqns {n : Nat} {l : List EqR} (hg : ∀ q ∈ l, GoodE n q) (hll : l.length ≤ 100000) (h9 : (allC l).length ≤ 100000) : Sane (eqns l) := by
  refine ⟨fun q hq => ?_, by rw [eqns_len]; exact hll, fun q hq => ?_⟩
  · obtain ⟨x, hx, rfl⟩ := List.mem_map.1 hq
    exact eqn_nd (hg x hx)
  · obtain ⟨x, hx, rfl⟩ := List.mem_map.1 hq
    obtain ⟨k, hk, rfl⟩ := List.mem_iff_getElem.1 hx
    have := allC_le1 hk
    rw [show l.getD k default = l[k] by rw [List.getD_eq_getElem?_getD, List.getElem?_eq_getElem hk]; rfl] at this
    refine ⟨(hg _ hx).val.1, (hg _ hx).val.2, ?_⟩
    show (l[k].1.2.2.map Int.toNat).length ≤ _
    rw [List.length_map]; omega
theorem zeros_at (n c : Nat) : (List.replicate n (0 : Int)).getD c 0 = 0 := by
  rw [List.getD_eq_getElem?_getD, List.getElem?_replicate]; split <;> rfl
theorem inv_start {n : Nat} {l : List EqR} (hg : ∀ q ∈ l, GoodE n q) {U : List Nat} (hU : U.Nodup) (hm : ∀ c, c ∈ U ↔ c ∈ touch n (eqns l)) : Inv n (eqns l) U (List.replicate n 0) := by
  refine ⟨by simp, hU, fun c hc => (mem_touch.1 ((hm c).1 hc)).1, fun c _ => zeros_at n c, fun q hq => ?_, fun q hq hop => ?_⟩
  · obtain ⟨x, hx, rfl⟩ := List.mem_map.1 hq
    unfold restQ
    rw [sumC_zero]
    have := (hg x hx).val.1
    show 0 ≤ x.2 - 0
    omega
  · exfalso
    obtain ⟨x, hx, rfl⟩ := List.mem_map.1 hq
    have hne := (hg x hx).ne
    have : (eqn x).1 ≠ [] := by unfold eqn; simpa using hne
    obtain ⟨c, hc⟩ := List.exists_mem_of_ne_nil _ this
    have hcU : c ∈ U := (hm c).2 (mem_touch.2 ⟨by have := (hg x hx).lt _ ((mem_eqn (hg x hx)).1 hc); omega, eqn x, hq, hc⟩)
    unfold openQ at hop
    have := List.length_eq_zero_iff.1 hop
    rw [List.filter_eq_nil_iff] at this
    exact this c hc (decide_eq_true hcU)
theorem open_same {L : List Eqn} {U V : List Nat} (h : ∀ c, c ∈ U ↔ c ∈ V) : openL L U = openL L V := by
  unfold openL openQ
  refine List.map_congr_left fun q _ => ?_
  congr 2
  exact List.filter_congr fun c _ => decide_eq_decide.2 (h c)
set_option maxRecDepth 10000 in
set_option maxHeartbeats 8000000 in
theorem some_spec (A : Option Addr) (c : Nat) (l : List EqR) (n most : Nat) (I : PH) (hl : Eqs I A c l) (hg : ∀ q ∈ l, GoodE n q) (hn : n ≤ 4096) (hll : l.length ≤ 100000) (h9 : (allC l).length ≤ 100000) (hm1 : 1 ≤ most) (hm2 : most ≤ 1000000) :
    FnSpec Tryz.prog 93 [.int .i64 (n : Int), .slice A l.length c, .int .i64 (most : Int)] I []
      (fun v R' => ∃ (A' : Option Addr) (c' : Nat) (o : List Row), v = .slice A' o.length c' ∧ o.map (·.2.2) = (solsOf n (eqns l)).take most ∧ R' = [Vec 25 1 A' o.length c' (o.map rowV), Stars (o.map rwR)]) := by
  have hSt := start_spec A c l n I hl hg hn hll (by omega)
  refine FnSpec.enterP Tryz.func93 rfl Tryz.ntmps93 rfl fun w F => ?_
  repeat' first
    | ((with_reducible refine Nx.is_wp ?_); first | refine Nx.p_stopr 2 rfl ?_ | refine Nx.wo ?_ | refine Nx.zp (fun hc => ?_) (fun hc => ?_))
    | (refine Nx.zo ?_; first | refine Nx.opr rfl rfl ?_ | (refine Nx.call (Rpre := []) rfl rfl rfl (by kernel_rfl) rfl hSt (Ent.refl _) ?_; rintro _ _ ⟨p, Atd, ctd, Ai, ci, ins, rfl, htv, hiv, hil, hins, rfl⟩) | refine Nx.so ?_ | refine Nx.sb (fun bx => ?_) | refine Nx.sa (fun A2 c2 => ?_))
    | ((with_reducible refine Nx.is_at ?_); first | refine Nx.a ?_ | refine Nx.zd ?_ | refine Nx.zs (fun hc => ?_) (fun hc => ?_))
    | ((with_reducible refine Nx.is_mix ?_); first | refine Nx.m ?_ | refine Nx.zm ?_ | refine Nx.zt (fun hc => ?_) (fun hc => ?_))
    | refine Nx.zx ?_ | fail
  refine unstopN ?_
  revert bx; intro bm
  refine started hiv hil hins (RR := [Blk bm 3 [.int .i64 (most : Int)], p.blk n l.length, iR p.Ar p.cr (valsL l), iR p.Ao p.co (sizesL l), iR p.At p.ct (List.replicate n 0), F]) (by (exact Ent.auto)) fun I1 hI1 hin htd => ?_
  refine Nx.freezeAt 0 rfl fun I2 m2 hI2 hm2 h2 => ?_
  have rm : ∀ I', PH.le I2 I' → ∀ (W : World) (R : List Res), Rd W I' R ⟨bm, 0, none⟩ (.int .i64 (most : Int)) := fun I' hI' W R => Rd.imm (cellH_mono (hm2.trans hI') (Blk.cell h2 rfl))
  have hsane := sane_eqns hg hll h9
  have hSe := fun bo => search_spec p n (eqns l) I2 (hin.mono hI2) (fun I' hI' => someF_spec bo bm most (by omega) I' n (rm I' hI')) hsane (by omega) Atd ctd (touch n (eqns l)) (htd.mono hI2) false (none, 0, []) (List.replicate n 0) (inv_start hg (touch_nd _ _) fun _ => Iff.rfl) (fun c => by rw [zeros_at]; exact Int.le_refl _) (show (0 : Int) < most by omega)
  rw [rest_start, open_start hg, eqns_len] at hSe
  unfold Pl.blk at hSe ⊢
  rw [htv] at hSe ⊢
  repeat' first
    | ((with_reducible refine Nx.is_wp ?_); first | refine Nx.p_stopr 3 rfl ?_ | refine Nx.wo ?_ | refine Nx.zp (fun hc => ?_) (fun hc => ?_))
    | (refine Nx.zo ?_; first | refine Nx.opr rfl rfl ?_ | refine Nx.so ?_ | refine Nx.sb (fun bx => ?_) | refine Nx.sa (fun A2 c2 => ?_))
    | ((with_reducible refine Nx.is_at ?_); first | refine Nx.a ?_ | refine Nx.zd ?_ | refine Nx.zs (fun hc => ?_) (fun hc => ?_))
    | ((with_reducible refine Nx.is_mix ?_); first | refine Nx.m ?_ | refine Nx.zm ?_ | refine Nx.zt (fun hc => ?_) (fun hc => ?_))
    | refine Nx.zx ?_ | fail
  refine unstopN ?_
  revert bx; intro bo
  refine Nx.ent (R' := [someT bo (none, 0, []), Blk p.b PT [.slice Atd (touch n (eqns l)).length ctd, p.iv, .slice p.Ar l.length p.cr, .slice p.Ao l.length p.co, .slice p.At n p.ct], iR p.Ar p.cr (valsL l), iR p.Ao p.co (sizesL l), iR p.At p.ct (List.replicate n 0), F])
    ((Ent.stars_nil _).trans ((Ent.vec_nil 25 1 _).trans (Ent.trans (R' := [Blk bo 33 [.slice none 0 0], Vec 25 1 none 0 0 [], Stars []] ++ [Blk p.b PT [.slice Atd (touch n (eqns l)).length ctd, p.iv, .slice p.Ar l.length p.cr, .slice p.Ao l.length p.co, .slice p.At n p.ct], iR p.Ar p.cr (valsL l), iR p.Ao p.co (sizesL l), iR p.At p.ct (List.replicate n 0), F]) (by (exact Ent.auto)) Ent.stars))) ?_
  repeat' first
    | ((with_reducible refine Nx.is_wp ?_); first | refine Nx.wo ?_ | refine Nx.zp (fun hc => ?_) (fun hc => ?_))
    | (refine Nx.zo ?_; first | refine Nx.opr rfl rfl ?_ | (refine Nx.call rfl rfl rfl (by kernel_rfl) rfl (hSe bo) (by (exact Ent.auto)) ?_; rintro _ _ ⟨rfl, s', G, hs', rfl⟩; obtain ⟨A', c', o⟩ := s'; refine Nx.ent (R' := [Blk bo 33 [.slice A' o.length c'], Vec 25 1 A' o.length c' (o.map rowV), Stars (o.map rwR), F]) (Ent.unstars.trans (by (exact Ent.auto))) ?_) | refine Nx.so ?_ | refine Nx.sb (fun bx => ?_) | refine Nx.sa (fun A2 c2 => ?_))
    | ((with_reducible refine Nx.is_at ?_); first | refine Nx.a ?_ | refine Nx.zd ?_ | refine Nx.zs (fun hc => ?_) (fun hc => ?_))
    | ((with_reducible refine Nx.is_mix ?_); first | refine Nx.m ?_ | refine Nx.zm ?_ | refine Nx.zt (fun hc => ?_) (fun hc => ?_))
    | refine Nx.zx ?_ | fail
  exact Nx.imm_le (hI1.trans hI2) (Nx.ret_fn rfl [_, _] ⟨A', c', o, rfl, by have h := someF_take most (solsOf n (eqns l)) [] (by show 0 < most; omega); rw [List.nil_append, List.length_nil, Nat.sub_zero] at h; exact hs'.trans h, rfl⟩ (by (exact Ent.auto)))
end Go.Proofs.YtjnhoemgceghlaaGreat
/- Contracts of functions of the given program, and lemmas about plain lists and numbers: what the laws of this seat lean on. -/
namespace Go.Proofs.YtjnhoemgceghlaaGreat
open Go.Eng
attribute [local irreducible] opK wpList Code.wp Exit.then Exit.inBlock fnPost bodyPost Nx Calls Oper.wp Rd Rds Wr Ent Stars Blk Again Vec FnSpec wpMix QRun Stop Upto wpAt
def szs (v : List Row) : List Int := v.map fun r => 1 + maxL r.2.2 (r.2.2.length - 1)
theorem szs_succ (v : List Row) (k : Nat) (hk : k < v.length) : szs (v.take (k + 1)) = szs (v.take k) ++ [1 + maxL (v.getD k default).2.2 ((v.getD k default).2.2.length - 1)] := by
  unfold szs
  rw [List.take_succ_eq_append_getElem hk, List.map_append]
  simp [List.getD_eq_getElem?_getD, List.getElem?_eq_getElem hk]
set_option maxHeartbeats 8000000 in
set_option maxRecDepth 10000 in
theorem sizes_spec (B : Option Addr) (cv : Nat) (v : List Row) (I : PH) (hv : RowsOf I B cv v) (h4 : v.length ≤ 4) (h1 : ∀ k, k < v.length → 1 ≤ (v.getD k default).2.2.length ∧ -8 ≤ maxL (v.getD k default).2.2 ((v.getD k default).2.2.length - 1) ∧ maxL (v.getD k default).2.2 ((v.getD k default).2.2.length - 1) ≤ 8) :
    FnSpec Tryz.prog 30 [.agg #[.slice B v.length cv]] I [] (fun u R' => ∃ A' c', u = .slice A' (szs v).length c' ∧ R' = [Vec 3 1 A' (szs v).length c' ((szs v).map (Value.int .i64))]) := by
  refine FnSpec.enterP Tryz.func30 rfl Tryz.ntmps30 rfl fun w F => ?_
  repeat' first
    | ((with_reducible refine Nx.is_wp ?_); first | refine Nx.wo ?_ | refine Nx.zp (fun hc => ?_) (fun hc => ?_))
    | (refine Nx.zo ?_; first | refine Nx.opr rfl rfl ?_ | refine Nx.so ?_ | refine Nx.sb (fun bx => ?_) | refine Nx.sa (fun A2 c2 => ?_))
    | ((with_reducible refine Nx.is_at ?_); first | refine Nx.a ?_ | refine Nx.zd ?_ | refine Nx.zs (fun hc => ?_) (fun hc => ?_))
    | ((with_reducible refine Nx.is_mix ?_); first | refine Nx.m ?_ | refine Nx.zm ?_ | refine Nx.zt (fun hc => ?_) (fun hc => ?_))
    | refine Nx.zx ?_ | fail
  refine Nx.p_loop (σ := Nat × Option Addr × Nat) (fun s => [(7, .slice B v.length cv), (8, .int .i64 v.length), (9, .int .i64 (s.1 : Int)), (3, .slice s.2.1 (szs (v.take s.1)).length s.2.2)])
    (fun s => [Vec 3 1 s.2.1 (szs (v.take s.1)).length s.2.2 ((szs (v.take s.1)).map (Value.int .i64)), F]) (fun s => s.1 ≤ v.length) (fun s => v.length - s.1) (0, none, 0) rfl (Nat.zero_le _) ⟨rfl, rfl, rfl, rfl, trivial⟩ ((Ent.vec_nil _ _ _).trans (by (exact Ent.auto))) ?_
  rintro ⟨k, A', c'⟩ hk
  dsimp only at hk ⊢
  have hx := h1 k
  have hsl : (szs (v.take k)).length ≤ k := by unfold szs; rw [List.length_map]; exact List.length_take_le _ _
  repeat' first
    | ((with_reducible refine Nx.is_wp ?_); first | refine Nx.wo ?_ | refine Nx.zp (fun hc => ?_) (fun hc => ?_))
    | (refine Nx.zo ?_; first | refine Nx.opr rfl rfl ?_ | refine Nx.indexAddr_nat rfl rfl rfl rfl rfl (by omega) (hv.outer.isSome (by omega)) ?_ | refine Nx.load rfl rfl rfl (hv.outer.rd (by omega)) ?_ | refine Nx.callv rfl rfl rfl (by kernel_rfl) rfl (Max_spec _ _ _ _ (hv.at (by omega)) (by omega)) ?_ | refine Nx.so ?_ | refine Nx.sb (fun bx => ?_) | refine Nx.sa (fun A2 c2 => ?_))
    | ((with_reducible refine Nx.is_at ?_); first | refine Nx.a ?_ | refine Nx.zd ?_ | refine Nx.zs (fun hc => ?_) (fun hc => ?_))
    | ((with_reducible refine Nx.is_mix ?_); first | refine Nx.m ?_ | refine Nx.zm ?_ | refine Nx.zt (fun hc => ?_) (fun hc => ?_))
    | refine Nx.zx ?_ | fail
  · have e1 := szs_succ v k (by omega)
    refine Nx.again (k + 1, A2, c2) (by dsimp only; omega) (by dsimp only; omega) ⟨rfl, rfl, rfl, by rw [e1, List.length_append]; rfl, trivial⟩ ?_
    refine Ent.pickE 0 rfl (by rw [e1, List.map_append, List.length_append]; rfl) ?_
    (exact Ent.auto)
  · rw [List.take_of_length_le (by omega)]
    exact Nx.ret_fn rfl [_] ⟨A', c', rfl, rfl⟩ (by (exact Ent.auto))
end Go.Proofs.YtjnhoemgceghlaaGreat
/- Contracts of functions of the given program, and lemmas about plain lists and numbers: what the laws of this seat lean on. -/
namespace Go.Proofs.YtjnhoemgceghlaaGreat
open Go.Eng
/-! Places as a function of the number; published cells as a function of the cell -/
theorem prod_cons (x : Int) (r : List Int) : prod (x :: r) = x * prod r := by
  have key : ∀ (r : List Int) (a : Int), r.foldl (· * ·) a = a * r.foldl (· * ·) 1 := by
    intro r
    induction r with
    | nil => intro a; simp
    | cons y r ih => intro a; simp only [List.foldl_cons]; rw [ih (a * y), ih (1 * y), Int.one_mul, Int.mul_assoc]
  unfold prod
  rw [List.foldl_cons, key, Int.one_mul]
theorem prod_drop (l : List Int) (k : Nat) (hk : k < l.length) : prod (l.drop k) = l.getD k default * prod (l.drop (k + 1)) := by
  rw [drop_at hk, prod_cons]
theorem prod_drop_pos {l : List Int} (hs : Sizes l) : ∀ j, j ≤ l.length → 0 < prod (l.drop (l.length - j))
  | 0, _ => by simp [prod]
  | j + 1, hj => by
    have ih := prod_drop_pos hs j (by omega)
    have hx := hs.at (k := l.length - (j + 1)) (by omega)
    rw [prod_drop l _ (by omega), show l.length - (j + 1) + 1 = l.length - j by omega]
    exact Int.mul_pos (by omega) ih
def plAt (l : List Int) (n : Int) (k : Nat) : Int := (n / prod (l.drop (k + 1))) % l.getD k default
def pl (l : List Int) (n : Int) : List Int := (List.range l.length).map (plAt l n)
theorem map_range_at (f : Nat → Int) (m k : Nat) (h : k < m) : ((List.range m).map f).getD k default = f k := by
  rw [List.getD_eq_getElem?_getD, List.getElem?_map, List.getElem?_range h]; rfl
theorem list_ext {xs ys : List Int} (hl : xs.length = ys.length) (h : ∀ k, k < xs.length → xs.getD k default = ys.getD k default) : xs = ys := by
  refine List.ext_getElem hl fun k h1 h2 => ?_
  have := h k h1
  rw [List.getD_eq_getElem?_getD, List.getD_eq_getElem?_getD, List.getElem?_eq_getElem h1, List.getElem?_eq_getElem h2] at this
  exact this
theorem numK_div {l xs : List Int} (hs : Sizes l) (hx : InR l xs) : ∀ j, j ≤ l.length → numK l xs l.length / prod (l.drop (l.length - j)) = numK l xs (l.length - j)
  | 0, _ => by simp [prod]
  | j + 1, hj => by
    have ih := numK_div hs hx j (by omega)
    have hp := prod_drop_pos hs j (by omega)
    have hat := hs.at (k := l.length - (j + 1)) (by omega)
    have hxk := hx.each (l.length - (j + 1)) (by omega)
    have e1 : l.length - (j + 1) + 1 = l.length - j := by omega
    rw [prod_drop l _ (by omega), e1, Int.mul_comm, ← Int.ediv_ediv_of_nonneg (by omega), ih]
    have e2 : numK l xs (l.length - j) = numK l xs (l.length - (j + 1)) * l.getD (l.length - (j + 1)) default + xs.getD (l.length - (j + 1)) default := by rw [← e1]; rfl
    rw [e2, Int.add_comm, Int.add_mul_ediv_right _ _ (by omega), Int.ediv_eq_zero_of_lt hxk.1 hxk.2, Int.zero_add]
theorem pl_of {l xs : List Int} {n : Int} (hs : Sizes l) (hx : InR l xs) (hn : numK l xs l.length = n) : xs = pl l n := by
  refine list_ext (by simp [pl, hx.len]) fun k hk => ?_
  have hk' : k < l.length := by have := hx.len; omega
  have h1 := numK_div hs hx (l.length - (k + 1)) (by omega)
  rw [show l.length - (l.length - (k + 1)) = k + 1 by omega] at h1
  unfold pl
  rw [map_range_at _ _ _ hk', plAt, ← hn, h1]
  have hxk := hx.each k hk'
  show _ = (numK l xs k * l.getD k default + xs.getD k default) % l.getD k default
  rw [Int.add_comm, Int.add_mul_emod_self_right, Int.emod_eq_of_lt hxk.1 hxk.2]
theorem numb_facts : ∀ (l : List Int) (nx n : Int), numb l nx = some n → nx ≤ n ∧ n ≤ nx + l.length ∧ (∀ x ∈ l, -1 ≤ x ∧ x < n) ∧ (nx < n → n - 1 ∈ l)
  | [], nx, n, h => by simp [numb] at h; subst h; simp
  | g :: r, nx, n, h => by
    unfold numb at h
    split at h
    · cases h
    · rename_i hg
      by_cases he : g = nx
      · rw [if_pos he] at h
        obtain ⟨h1, h2, h3, h4⟩ := numb_facts r _ n h
        refine ⟨by omega, by simp; omega, fun x hx => ?_, fun hlt => ?_⟩
        · rcases List.mem_cons.1 hx with rfl | hx
          · omega
          · exact h3 x hx
        · by_cases h5 : nx + 1 < n
          · exact List.mem_cons_of_mem _ (h4 h5)
          · rw [show n - 1 = g by omega]; exact List.mem_cons_self
      · rw [if_neg he] at h
        obtain ⟨h1, h2, h3, h4⟩ := numb_facts r _ n h
        refine ⟨h1, by simp; omega, fun x hx => ?_, fun hlt => List.mem_cons_of_mem _ (h4 hlt)⟩
        rcases List.mem_cons.1 hx with rfl | hx
        · omega
        · exact h3 x hx
theorem maxL_le (l : List Int) : ∀ k j, j ≤ k → l.getD j default ≤ maxL l k
  | 0, j, h => by obtain rfl : j = 0 := by omega
                  exact Int.le_refl _
  | k + 1, j, h => by
    simp only [maxL]
    by_cases hj : j ≤ k
    · have := maxL_le l k j hj; omega
    · obtain rfl : j = k + 1 := by omega
      omega
theorem maxL_at (l : List Int) : ∀ k, ∃ j, j ≤ k ∧ maxL l k = l.getD j default
  | 0 => ⟨0, Nat.le_refl _, rfl⟩
  | k + 1 => by
    obtain ⟨j, hj, he⟩ := maxL_at l k
    simp only [maxL]
    by_cases h : maxL l k ≤ l.getD (k + 1) default
    · exact ⟨k + 1, Nat.le_refl _, by omega⟩
    · exact ⟨j, by omega, by omega⟩
theorem getD_mem {l : List Int} {k : Nat} (h : k < l.length) : l.getD k default ∈ l := by
  rw [List.getD_eq_getElem?_getD, List.getElem?_eq_getElem h]; exact List.getElem_mem _
theorem mem_getD {l : List Int} {x : Int} (h : x ∈ l) : ∃ k, k < l.length ∧ l.getD k default = x := by
  obtain ⟨k, hk, he⟩ := List.mem_iff_getElem.1 h
  exact ⟨k, hk, by rw [List.getD_eq_getElem?_getD, List.getElem?_eq_getElem hk]; exact he⟩
/-- What is known of the groups of one dimension. -/
structure Grouped (l : List Int) : Prop where
  pos : 1 ≤ l.length
  max : 0 ≤ maxL l (l.length - 1) ∧ maxL l (l.length - 1) < l.length
  each : ∀ k, k < l.length → -1 ≤ l.getD k default ∧ l.getD k default ≤ maxL l (l.length - 1)
theorem grouped_of {l : List Int} (h : numbB l = true) : Grouped l := by
  unfold numbB at h
  split at h
  · rename_i n hn
    have h0 : 0 < n := of_decide_eq_true h
    obtain ⟨h1, h2, h3, h4⟩ := numb_facts l 0 n hn
    have hm := h4 h0
    obtain ⟨k, hk, he⟩ := mem_getD hm
    have h5 := maxL_le l (l.length - 1) k (by omega)
    obtain ⟨j, hj, hj'⟩ := maxL_at l (l.length - 1)
    have h6 := h3 _ (getD_mem (l := l) (k := j) (by omega))
    have h7 : maxL l (l.length - 1) = n - 1 := by omega
    refine ⟨by omega, by omega, fun i hi => ?_⟩
    have := h3 _ (getD_mem hi)
    omega
  · cases h
/-- The group of each place. -/
def gsOf (v : List Row) (xs : List Int) : List Int := (List.range v.length).map fun i => (v.getD i default).2.2.getD (xs.getD i default).toNat default
def pubOf (l : List Int) (v : List Row) (n : Nat) : Int := if (gsOf v (pl l n)).contains (-1) then -1 else numK (szs v) (gsOf v (pl l n)) v.length
def pubs (l : List Int) (v : List Row) : List Int := (List.range (prod l).toNat).map (pubOf l v)
theorem szs_len (v : List Row) : (szs v).length = v.length := by simp [szs]
theorem szs_at (v : List Row) (k : Nat) (hk : k < v.length) : (szs v).getD k default = 1 + maxL (v.getD k default).2.2 ((v.getD k default).2.2.length - 1) := by
  unfold szs
  rw [List.getD_eq_getElem?_getD, List.getElem?_map, List.getD_eq_getElem?_getD, List.getElem?_eq_getElem hk]
  rfl
theorem Viewed.grouped {l : List Int} {v : List Row} (hw : Viewed l v) {k : Nat} (hk : k < l.length) : Grouped (v.getD k default).2.2 := grouped_of (hw.each k hk).2
theorem Viewed.szs {l : List Int} {v : List Row} (hw : Viewed l v) {k : Nat} (hk : k < l.length) : 1 ≤ (szs v).getD k default ∧ (szs v).getD k default ≤ l.getD k default := by
  have hg := hw.grouped hk
  have h1 := (hw.each k hk).1
  have h2 := hg.max
  rw [szs_at v k (by rw [hw.len]; exact hk)]
  omega
theorem prod_le {a b : List Int} (hl : a.length = b.length) (h : ∀ k, k < b.length → 1 ≤ a.getD k default ∧ a.getD k default ≤ b.getD k default) : ∀ k, k ≤ b.length → 1 ≤ prod (a.take k) ∧ prod (a.take k) ≤ prod (b.take k)
  | 0, _ => by simp [prod]
  | k + 1, hk => by
    have ih := prod_le hl h k (by omega)
    have hx := h k (by omega)
    rw [prod_succ a k (by omega), prod_succ b k (by omega)]
    refine ⟨?_, Int.mul_le_mul ih.2 hx.2 (by omega) (by omega)⟩
    have := Int.mul_le_mul ih.1 hx.1 (by omega) (by omega)
    omega
theorem Viewed.sizes {l : List Int} {v : List Row} (hs : Sizes l) (hw : Viewed l v) : Sizes (Proofs.YtjnhoemgceghlaaGreat.szs v) := by
  have hlen : (Proofs.YtjnhoemgceghlaaGreat.szs v).length = l.length := by rw [szs_len, hw.len]
  refine ⟨by rw [hlen]; exact hs.dims, fun x hx => ?_, ?_⟩
  · obtain ⟨k, hk, rfl⟩ := mem_getD hx
    have h1 := hw.szs (k := k) (by omega)
    have h2 := hs.at (k := k) (by omega)
    omega
  · have := prod_le hlen (fun k hk => hw.szs hk) l.length (Nat.le_refl _)
    rw [List.take_length, ← hlen, List.take_length] at this
    have := hs.cells
    omega
theorem gsOf_len (v : List Row) (xs : List Int) : (gsOf v xs).length = v.length := by simp [gsOf]
theorem gsOf_at (v : List Row) (xs : List Int) (k : Nat) (hk : k < v.length) : (gsOf v xs).getD k default = (v.getD k default).2.2.getD (xs.getD k default).toNat default := map_range_at _ _ _ hk
theorem gsOf_bd {l : List Int} {v : List Row} {xs : List Int} (hw : Viewed l v) (hx : InR l xs) {k : Nat} (hk : k < l.length) : -1 ≤ (gsOf v xs).getD k default ∧ (gsOf v xs).getD k default < (szs v).getD k default := by
  have hkv : k < v.length := by rw [hw.len]; exact hk
  have hg := hw.grouped hk
  have h1 := (hw.each k hk).1
  have h2 := hx.each k hk
  have h3 := hg.each (xs.getD k default).toNat (by omega)
  rw [gsOf_at v xs k hkv, szs_at v k hkv]
  omega
theorem gsOf_in {l : List Int} {v : List Row} {xs : List Int} (hw : Viewed l v) (hx : InR l xs) (hc : (gsOf v xs).contains (-1) = false) : InR (szs v) (gsOf v xs) := by
  refine ⟨by rw [gsOf_len, szs_len], fun k hk => ?_⟩
  rw [szs_len, hw.len] at hk
  have h1 := gsOf_bd hw hx hk
  refine ⟨?_, h1.2⟩
  have hne : (gsOf v xs).getD k default ≠ -1 := fun h => by
    have hm := getD_mem (l := gsOf v xs) (k := k) (by rw [gsOf_len, hw.len]; exact hk)
    rw [h] at hm
    rw [List.contains_eq_mem, decide_eq_false_iff_not] at hc
    exact hc hm
  omega
/-- The places of a cell. -/
theorem mod_range {a d : Int} (h : 1 ≤ d) : 0 ≤ a % d ∧ a % d < d := ⟨Int.emod_nonneg _ (by omega), Int.emod_lt_of_pos _ (by omega)⟩
theorem pl_in {l : List Int} (hs : Sizes l) (n : Int) : InR l (pl l n) := by
  refine ⟨by simp [pl], fun k hk => ?_⟩
  unfold pl
  rw [map_range_at _ _ _ hk]
  exact mod_range (hs.at hk).1
theorem pub_bd {l : List Int} {v : List Row} (hs : Sizes l) (hw : Viewed l v) (n : Nat) : -1 ≤ pubOf l v n ∧ pubOf l v n < prod (szs v) := by
  have hp := (hw.sizes hs).bound (k := (szs v).length) (Nat.le_refl _)
  rw [List.take_length] at hp
  unfold pubOf
  split
  · omega
  · rename_i hc
    have hin := gsOf_in hw (pl_in hs n) (by simpa using hc)
    have := numK_bound hin (szs v).length (Nat.le_refl _)
    rw [List.take_length, szs_len] at this
    omega
end Go.Proofs.YtjnhoemgceghlaaGreat
/- Contracts of functions of the given program, and lemmas about plain lists and numbers: what the laws of this seat lean on. -/
namespace Go.Proofs.YtjnhoemgceghlaaGreat
open Go.Eng
attribute [local irreducible] opK wpList Code.wp Exit.then Exit.inBlock fnPost bodyPost Nx Calls Oper.wp Rd Rds Wr Ent Stars Blk Again Vec FnSpec wpMix QRun Stop Upto wpAt
theorem RowsOf.mono {I I' : PH} {A : Option Addr} {c : Nat} {v : List Row} (hle : PH.le I I') (h : RowsOf I A c v) : RowsOf I' A c v := ⟨h.outer.mono hle, fun r hr => (h.inner r hr).mono hle⟩
theorem mix_at {gs xs : List Int} {i : Nat} (hl : gs.length = xs.length) (hi : i < xs.length) : (gs.take i ++ xs.drop i).getD i default = xs.getD i default := by
  rw [List.getD_eq_getElem?_getD, List.getElem?_append_right (by rw [List.length_take]; omega), List.length_take, show i - min i gs.length = 0 by omega, List.getElem?_drop, List.getD_eq_getElem?_getD]; rfl
theorem mix_len {gs xs : List Int} {i : Nat} (hl : gs.length = xs.length) (hi : i ≤ xs.length) : (gs.take i ++ xs.drop i).length = xs.length := by
  rw [List.length_append, List.length_take, List.length_drop]; omega
theorem mix_set {gs xs : List Int} {i : Nat} (hl : gs.length = xs.length) (hi : i < xs.length) : (gs.take i ++ xs.drop i).set i (gs.getD i default) = gs.take (i + 1) ++ xs.drop (i + 1) := by
  rw [List.set_append, if_neg (by rw [List.length_take]; omega), List.length_take, show i - min i gs.length = 0 by omega, List.take_succ_eq_append_getElem (by omega), List.append_assoc, List.drop_eq_getElem_cons hi, List.set_cons_zero]
  simp [List.getD_eq_getElem?_getD, List.getElem?_eq_getElem (show i < gs.length by omega)]
theorem map_range_succ (f : Nat → Int) (n : Nat) : (List.range (n + 1)).map f = (List.range n).map f ++ [f n] := by rw [List.range_succ, List.map_append]; rfl
set_option maxHeartbeats 8000000 in
set_option maxRecDepth 10000 in
theorem published_spec (A B : Option Addr) (c cv : Nat) (l : List Int) (v : List Row) (I : PH) (hl : Ints I A c l) (hs : Sizes l) (hv : RowsOf I B cv v) (hw : Viewed l v) :
    FnSpec Tryz.prog 31 [.agg #[.slice A l.length c], .agg #[.slice B v.length cv]] I [] (fun u R' => ∃ A' c', u = .slice A' (pubs l v).length c' ∧ R' = [Vec 3 1 A' (pubs l v).length c' ((pubs l v).map (Value.int .i64))]) := by
  have hlen := hl.len
  have hd := hs.dims
  have hvl := hw.len
  have hpr := hs.bound (k := l.length) (Nat.le_refl _)
  rw [List.take_length] at hpr
  refine FnSpec.enterP Tryz.func31 rfl Tryz.ntmps31 rfl fun w F => ?_
  repeat' first
    | ((with_reducible refine Nx.is_wp ?_); first | refine Nx.wo ?_ | refine Nx.zp (fun hc => ?_) (fun hc => ?_))
    | (refine Nx.zo ?_; first | refine Nx.opr rfl rfl ?_ | refine Nx.so ?_ | refine Nx.sb (fun bx => ?_) | refine Nx.sa (fun A2 c2 => ?_))
    | ((with_reducible refine Nx.is_at ?_); first | refine Nx.a ?_ | refine Nx.zd ?_ | refine Nx.zs (fun hc => ?_) (fun hc => ?_))
    | ((with_reducible refine Nx.is_mix ?_); first | refine Nx.m ?_ | refine Nx.zm ?_ | refine Nx.zt (fun hc => ?_) (fun hc => ?_))
    | refine Nx.zx ?_ | fail
  refine Nx.at_op rfl rfl ?_
  refine Nx.call rfl rfl rfl (by kernel_rfl) rfl (sizes_spec B cv v I hv (by omega) (fun k hk => ?_)) (by (exact Ent.auto)) ?_
  · have := hw.grouped (k := k) (by omega)
    have h1 := (hw.each k (by omega)).1
    have h2 := hs.at (k := k) (by omega)
    have := this.max; have := (hw.grouped (k := k) (by omega)).pos
    omega
  rintro u R' ⟨As, cs, rfl, rfl⟩
  refine Nx.freezeAt 0 rfl fun I' m hle hm hvec => ?_
  have hz : Ints I' As cs (szs v) := Vec.sliceOf hm hvec
  have hl' := hl.mono hle
  have hv' := hv.mono hle
  repeat' first
    | ((with_reducible refine Nx.is_wp ?_); first | refine Nx.wo ?_ | refine Nx.zp (fun hc => ?_) (fun hc => ?_))
    | (refine Nx.zo ?_; first | refine Nx.opr rfl rfl ?_ | refine Nx.callv rfl rfl rfl (by kernel_rfl) rfl (product_spec _ _ _ _ hl' hs) ?_ | refine Nx.so ?_ | refine Nx.sb (fun bx => ?_) | refine Nx.sa (fun A2 c2 => ?_))
    | ((with_reducible refine Nx.is_at ?_); first | refine Nx.a ?_ | refine Nx.zd ?_ | refine Nx.zs (fun hc => ?_) (fun hc => ?_))
    | ((with_reducible refine Nx.is_mix ?_); first | refine Nx.m ?_ | refine Nx.zm ?_ | refine Nx.zt (fun hc => ?_) (fun hc => ?_))
    | refine Nx.zx ?_ | fail
  rename_i b2
  refine Nx.p_loop (σ := Nat × Option Addr × Nat) (fun s => [(2, .pointer (some ⟨b2, 0, none⟩)), (3, .pointer (some ⟨bx, 0, none⟩)), (5, .slice As (szs v).length cs), (6, .slice s.2.1 s.1 s.2.2), (15, .int .i64 (prod l)), (16, .int .i64 (s.1 : Int))])
    (fun s => [Vec 3 1 s.2.1 s.1 s.2.2 (((List.range s.1).map (pubOf l v)).map (Value.int .i64)), Blk b2 27 [.slice A l.length c], Blk bx 35 [.slice B v.length cv], F]) (fun s => s.1 ≤ (prod l).toNat) (fun s => (prod l).toNat - s.1) (0, none, 0) rfl (Nat.zero_le _) ⟨rfl, rfl, rfl, rfl, rfl, rfl, trivial⟩ ((Ent.vec_nil _ _ _).trans (by (exact Ent.auto))) ?_
  rintro ⟨k, A', c'⟩ hk
  dsimp only at hk ⊢
  have hmono : k < (prod l).toNat → (k : Int) < prod l := fun h => by omega
  repeat' first
    | ((with_reducible refine Nx.is_wp ?_); first | refine Nx.wo ?_ | refine Nx.zp (fun hc => ?_) (fun hc => ?_))
    | (refine Nx.zo ?_; first | refine Nx.opr rfl rfl ?_ | refine Nx.so ?_ | refine Nx.sb (fun bx => ?_) | refine Nx.sa (fun A2 c2 => ?_))
    | ((with_reducible refine Nx.is_at ?_); first | refine Nx.a ?_ | refine Nx.zd ?_ | refine Nx.zs (fun hc => ?_) (fun hc => ?_))
    | ((with_reducible refine Nx.is_mix ?_); first | refine Nx.m ?_ | refine Nx.zm ?_ | refine Nx.zt (fun hc => ?_) (fun hc => ?_))
    | refine Nx.zx ?_ | fail
  · refine Nx.at_op rfl rfl ?_
    refine Nx.call rfl rfl rfl (by kernel_rfl) rfl (places_spec A c l k I' hl' hs (by omega)) (Ent.refl _) ?_
    rintro u R' ⟨bp, xs, rfl, hr, hnum, _, rfl⟩
    have hpl := pl_of hs hr hnum
    have hxl := hr.len
    have hgl : (gsOf v xs).length = xs.length := by rw [gsOf_len]; omega
    repeat' first
      | ((with_reducible refine Nx.is_wp ?_); first | refine Nx.wo ?_ | refine Nx.zp (fun hc => ?_) (fun hc => ?_))
      | (refine Nx.zo ?_; first | refine Nx.opr rfl rfl ?_ | refine Nx.so ?_ | refine Nx.sb (fun bx => ?_) | refine Nx.sa (fun A2 c2 => ?_))
      | ((with_reducible refine Nx.is_at ?_); first | refine Nx.a ?_ | refine Nx.zd ?_ | refine Nx.zs (fun hc => ?_) (fun hc => ?_))
      | ((with_reducible refine Nx.is_mix ?_); first | refine Nx.m ?_ | refine Nx.zm ?_ | refine Nx.zt (fun hc => ?_) (fun hc => ?_))
      | refine Nx.zx ?_ | fail
    refine Nx.p_loop (σ := Nat) (fun i => [(2, .pointer (some ⟨b2, 0, none⟩)), (3, .pointer (some ⟨bx, 0, none⟩)), (5, .slice As (szs v).length cs), (6, .slice A' k c'), (15, .int .i64 (prod l)), (16, .int .i64 (k : Int)), (8, .slice (some ⟨bp, 0, none⟩) xs.length xs.length), (23, .slice (some ⟨bp, 0, none⟩) xs.length xs.length), (24, .int .i64 xs.length), (25, .int .i64 (i : Int))])
      (fun i => [Vec 3 1 (some ⟨bp, 0, none⟩) xs.length xs.length (((gsOf v xs).take i ++ xs.drop i).map (Value.int .i64)), Vec 3 1 A' k c' (((List.range k).map (pubOf l v)).map (Value.int .i64)), Blk b2 27 [.slice A l.length c], Blk bx 35 [.slice B v.length cv], F]) (fun i => i ≤ xs.length) (fun i => xs.length - i) 0 rfl (Nat.zero_le _) ⟨rfl, rfl, rfl, rfl, rfl, rfl, rfl, rfl, rfl, rfl, trivial⟩ (by (exact Ent.auto)) ?_
    intro i hi
    have hmx : i < xs.length → ((gsOf v xs).take i ++ xs.drop i).getD i default = xs.getD i default := fun h => mix_at hgl h
    have hml := mix_len hgl hi
    have hxi := hr.each i
    have hwi := hw.each i
    have hgi : i < v.length → (gsOf v xs).getD i default = (v.getD i default).2.2.getD (xs.getD i default).toNat default := gsOf_at v xs i
    by_cases hlt : i < xs.length
    · have hmx := hmx hlt
      have hgi := hgi (by omega)
      repeat' first
        | ((with_reducible refine Nx.is_wp ?_); first | refine Nx.wo ?_ | refine Nx.zp (fun hc => ?_) (fun hc => ?_))
        | (refine Nx.zo ?_; first | refine Nx.opr rfl rfl ?_ | refine Nx.indexAddr_nat rfl rfl rfl rfl rfl (by omega) rfl ?_ | refine Nx.load rfl rfl rfl (Rd.vecEl 0 rfl (by omega)) ?_ | refine Nx.so ?_ | refine Nx.sb (fun bx => ?_) | refine Nx.sa (fun A2 c2 => ?_))
        | ((with_reducible refine Nx.is_at ?_); first | refine Nx.a ?_ | refine Nx.zd ?_ | refine Nx.zs (fun hc => ?_) (fun hc => ?_))
        | ((with_reducible refine Nx.is_mix ?_); first | refine Nx.m ?_ | refine Nx.zm ?_ | refine Nx.zt (fun hc => ?_) (fun hc => ?_))
        | refine Nx.zx ?_ | fail
      repeat' first
        | ((with_reducible refine Nx.is_wp ?_); first | refine Nx.wo ?_ | refine Nx.zp (fun hc => ?_) (fun hc => ?_))
        | (refine Nx.zo ?_; first | refine Nx.opr rfl rfl ?_ | refine Nx.indexAddr_nat rfl rfl rfl rfl rfl (by omega) (hv'.outer.isSome (by omega)) ?_ | refine Nx.load rfl rfl rfl (hv'.outer.rd (by omega)) ?_ | refine Nx.so ?_ | refine Nx.sb (fun bx => ?_) | refine Nx.sa (fun A2 c2 => ?_))
        | ((with_reducible refine Nx.is_at ?_); first | refine Nx.a ?_ | refine Nx.zd ?_ | refine Nx.zs (fun hc => ?_) (fun hc => ?_))
        | ((with_reducible refine Nx.is_mix ?_); first | refine Nx.m ?_ | refine Nx.zm ?_ | refine Nx.zt (fun hc => ?_) (fun hc => ?_))
        | refine Nx.zx ?_ | fail
      refine Nx.at_op rfl rfl ?_
      refine Nx.indexAddr rfl rfl rfl rfl rfl (by omega) (by omega) ((hv'.at (by omega)).isSome (by omega)) ?_
      refine Nx.at_op rfl rfl ?_
      refine Nx.load rfl rfl rfl ((hv'.at (by omega)).rd (by omega)) ?_
      repeat' first
        | ((with_reducible refine Nx.is_wp ?_); first | refine Nx.wo ?_ | refine Nx.zp (fun hc => ?_) (fun hc => ?_))
        | (refine Nx.zo ?_; first | refine Nx.opr rfl rfl ?_ | refine Nx.indexAddr_nat rfl rfl rfl rfl rfl (by omega) rfl ?_ | refine Nx.so ?_ | refine Nx.sb (fun bx => ?_) | refine Nx.sa (fun A2 c2 => ?_))
        | ((with_reducible refine Nx.is_at ?_); first | refine Nx.a ?_ | refine Nx.zd ?_ | refine Nx.zs (fun hc => ?_) (fun hc => ?_))
        | ((with_reducible refine Nx.is_mix ?_); first | refine Nx.m ?_ | refine Nx.zm ?_ | refine Nx.zt (fun hc => ?_) (fun hc => ?_))
        | refine Nx.zx ?_ | fail
      refine Nx.again (i + 1) (by omega) (by omega) ⟨rfl, rfl, rfl, rfl, rfl, rfl, rfl, rfl, rfl, rfl, trivial⟩ ?_
      refine Ent.pickE 0 rfl ?_ (by (exact Ent.auto))
      rw [hmx, ← hgi, mix_set hgl hlt]
    · obtain rfl : i = xs.length := by omega
      have hfull : (gsOf v xs).take xs.length ++ xs.drop xs.length = gsOf v xs := by rw [List.drop_length, List.append_nil, ← hgl, List.take_length]
      rw [hfull]
      repeat' first
        | ((with_reducible refine Nx.is_wp ?_); first | refine Nx.wo ?_ | refine Nx.zp (fun hc => ?_) (fun hc => ?_))
        | (refine Nx.zo ?_; first | refine Nx.opr rfl rfl ?_ | refine Nx.so ?_ | refine Nx.sb (fun bx => ?_) | refine Nx.sa (fun A2 c2 => ?_))
        | ((with_reducible refine Nx.is_at ?_); first | refine Nx.a ?_ | refine Nx.zd ?_ | refine Nx.zs (fun hc => ?_) (fun hc => ?_))
        | ((with_reducible refine Nx.is_mix ?_); first | refine Nx.m ?_ | refine Nx.zm ?_ | refine Nx.zt (fun hc => ?_) (fun hc => ?_))
        | refine Nx.zx ?_ | fail
      refine Nx.freezeAt 0 rfl fun I2 m2 hle2 hm2 hvec2 => ?_
      have hgs : Ints I2 (some ⟨bp, 0, none⟩) (gsOf v xs).length (gsOf v xs) := Vec.sliceOf (t := 3) hm2 (by rw [hgl]; exact hvec2)
      rw [← hgl]
      have hpub : pubOf l v k = if (gsOf v xs).contains (-1) then -1 else numK (szs v) (gsOf v xs) (szs v).length := by rw [hpl, szs_len]; rfl
      repeat' first
        | ((with_reducible refine Nx.is_wp ?_); first | refine Nx.wo ?_ | refine Nx.zp (fun hc => ?_) (fun hc => ?_))
        | (refine Nx.zo ?_; first | refine Nx.opr rfl rfl ?_ | refine Nx.callv rfl rfl rfl (by kernel_rfl) rfl (Contains_spec _ _ _ _ _ hgs) ?_ | refine Nx.callv rfl rfl rfl (by kernel_rfl) rfl (number_spec _ _ _ _ _ _ _ (hz.mono hle2) hgs (hw.sizes hs) (gsOf_in hw hr hc)) ?_ | refine Nx.so ?_ | refine Nx.sb (fun bx => ?_) | refine Nx.sa (fun A2 c2 => ?_))
        | ((with_reducible refine Nx.is_at ?_); first | refine Nx.a ?_ | refine Nx.zd ?_ | refine Nx.zs (fun hc => ?_) (fun hc => ?_))
        | ((with_reducible refine Nx.is_mix ?_); first | refine Nx.m ?_ | refine Nx.zm ?_ | refine Nx.zt (fun hc => ?_) (fun hc => ?_))
        | refine Nx.zx ?_ | fail
      · refine Nx.imm_le hle2 (Nx.again (k + 1, A2, c2) (by dsimp only; omega) (by dsimp only; omega) ⟨rfl, rfl, rfl, rfl, rfl, rfl, trivial⟩ ?_)
        refine Ent.pickE 0 rfl ?_ (by (exact Ent.auto))
        rw [map_range_succ, hpub, if_pos hc, List.map_append]; rfl
      · refine Nx.imm_le hle2 (Nx.again (k + 1, A2, c2) (by dsimp only; omega) (by dsimp only; omega) ⟨rfl, rfl, rfl, rfl, rfl, rfl, trivial⟩ ?_)
        refine Ent.pickE 0 rfl ?_ (by (exact Ent.auto))
        rw [map_range_succ, hpub, if_neg (by rw [hc]; decide), List.map_append]; rfl
  · obtain rfl : k = (prod l).toNat := by omega
    refine Nx.imm_le hle (Nx.ret_fn rfl [_] ⟨A', c', ?_, ?_⟩ (by (exact Ent.auto)))
    · simp [pubs]
    · simp [pubs]
end Go.Proofs.YtjnhoemgceghlaaGreat
/- Contracts of functions of the given program, and lemmas about plain lists and numbers: what the laws of this seat lean on. -/
namespace Go.Proofs.YtjnhoemgceghlaaGreat
open Go.Eng
attribute [local irreducible] opK wpList Code.wp Exit.then Exit.inBlock fnPost bodyPost Nx Calls Oper.wp Rd Rds Wr Ent Stars Blk Again Vec FnSpec wpMix QRun Stop Upto wpAt
def memK (l : List Int) (v : List Row) (k : Int) (n : Nat) : List Int := ((List.range n).filter (fun j => decide (pubOf l v j = k))).map (fun j : Nat => (j : Int))
theorem memK_len (l : List Int) (v : List Row) (k : Int) (n : Nat) : (memK l v k n).length ≤ n := by
  unfold memK
  rw [List.length_map]
  exact Nat.le_trans (List.length_filter_le _ _) (by simp)
theorem memK_succ (l : List Int) (v : List Row) (k : Int) (n : Nat) : memK l v k (n + 1) = memK l v k n ++ if pubOf l v n = k then [(n : Int)] else [] := by
  unfold memK
  rw [List.range_succ, List.filter_append, List.map_append]
  by_cases h : pubOf l v n = k <;> simp [h]
theorem pubs_len (l : List Int) (v : List Row) : (pubs l v).length = (prod l).toNat := by simp [pubs]
theorem pubs_at (l : List Int) (v : List Row) (n : Nat) (h : n < (prod l).toNat) : (pubs l v).getD n default = pubOf l v n := map_range_at _ _ _ h
theorem Viewed.szsOk {l : List Int} {v : List Row} (hs : Sizes l) (hw : Viewed l v) : v.length ≤ 4 ∧ ∀ k, k < v.length → 1 ≤ (v.getD k default).2.2.length ∧ -8 ≤ maxL (v.getD k default).2.2 ((v.getD k default).2.2.length - 1) ∧ maxL (v.getD k default).2.2 ((v.getD k default).2.2.length - 1) ≤ 8 := by
  have hd := hs.dims
  have hl := hw.len
  refine ⟨by omega, fun k hk => ?_⟩
  have h1 := (hw.each k (by omega)).1
  have h2 := hs.at (k := k) (by omega)
  have := (hw.grouped (k := k) (by omega)).max; have := (hw.grouped (k := k) (by omega)).pos
  omega
set_option maxHeartbeats 8000000 in
set_option maxRecDepth 10000 in
theorem Published_spec (A B : Option Addr) (c cv : Nat) (l : List Int) (v : List Row) (I : PH) (hl : Ints I A c l) (hs : Sizes l) (hv : RowsOf I B cv v) (hw : Viewed l v) :
    FnSpec Tryz.prog 144 [.agg #[.slice A l.length c], .agg #[.slice B v.length cv]] I [] (fun u R' => u = .int .i64 (prod (szs v)) ∧ R' = []) := by
  refine FnSpec.enterP Tryz.func144 rfl Tryz.ntmps144 rfl fun w F => ?_
  repeat' first
    | ((with_reducible refine Nx.is_wp ?_); first | refine Nx.wo ?_ | refine Nx.zp (fun hc => ?_) (fun hc => ?_))
    | (refine Nx.zo ?_; first | refine Nx.opr rfl rfl ?_ | refine Nx.callv rfl rfl rfl (by kernel_rfl) rfl (View_spec _ _ _ _ _ _ _ hl hs hv hw) ?_ | refine Nx.so ?_ | refine Nx.sb (fun bx => ?_) | refine Nx.sa (fun A2 c2 => ?_))
    | ((with_reducible refine Nx.is_at ?_); first | refine Nx.a ?_ | refine Nx.zd ?_ | refine Nx.zs (fun hc => ?_) (fun hc => ?_))
    | ((with_reducible refine Nx.is_mix ?_); first | refine Nx.m ?_ | refine Nx.zm ?_ | refine Nx.zt (fun hc => ?_) (fun hc => ?_))
    | refine Nx.zx ?_ | fail
  refine Nx.at_op rfl rfl ?_
  refine Nx.call rfl rfl rfl (by kernel_rfl) rfl (sizes_spec B cv v I hv (hw.szsOk hs).1 (hw.szsOk hs).2) (by (exact Ent.auto)) ?_
  rintro u R' ⟨As, cs, rfl, rfl⟩
  refine Nx.freezeAt 0 rfl fun I' m hle hm hvec => ?_
  have hz : Ints I' As cs (szs v) := Vec.sliceOf hm hvec
  repeat' first
    | ((with_reducible refine Nx.is_wp ?_); first | refine Nx.wo ?_ | refine Nx.zp (fun hc => ?_) (fun hc => ?_))
    | (refine Nx.zo ?_; first | refine Nx.opr rfl rfl ?_ | refine Nx.callv rfl rfl rfl (by kernel_rfl) rfl (product_spec _ _ _ _ hz (hw.sizes hs)) ?_ | refine Nx.so ?_ | refine Nx.sb (fun bx => ?_) | refine Nx.sa (fun A2 c2 => ?_))
    | ((with_reducible refine Nx.is_at ?_); first | refine Nx.a ?_ | refine Nx.zd ?_ | refine Nx.zs (fun hc => ?_) (fun hc => ?_))
    | ((with_reducible refine Nx.is_mix ?_); first | refine Nx.m ?_ | refine Nx.zm ?_ | refine Nx.zt (fun hc => ?_) (fun hc => ?_))
    | refine Nx.zx ?_ | fail
  exact Nx.imm_le hle (Nx.ret_fn rfl [] ⟨rfl, rfl⟩ (by (exact Ent.auto)))
set_option maxHeartbeats 8000000 in
set_option maxRecDepth 10000 in
theorem Members_spec (A B : Option Addr) (c cv : Nat) (l : List Int) (v : List Row) (k : Int) (I : PH) (hl : Ints I A c l) (hs : Sizes l) (hv : RowsOf I B cv v) (hw : Viewed l v) (hk : 0 ≤ k ∧ k < prod (szs v)) :
    FnSpec Tryz.prog 119 [.agg #[.slice A l.length c], .agg #[.slice B v.length cv], .int .i64 k] I [] (fun u R' => ∃ A' c', u = .tuple #[.slice A' (memK l v k (prod l).toNat).length c', .int .i64 0] ∧ R' = [Vec 3 1 A' (memK l v k (prod l).toNat).length c' ((memK l v k (prod l).toNat).map (Value.int .i64))]) := by
  have hpr := hs.bound (k := l.length) (Nat.le_refl _)
  rw [List.take_length] at hpr
  have hpl := pubs_len l v
  refine FnSpec.enterP Tryz.func119 rfl Tryz.ntmps119 rfl fun w F => ?_
  repeat' first
    | ((with_reducible refine Nx.is_wp ?_); first | refine Nx.wo ?_ | refine Nx.zp (fun hc => ?_) (fun hc => ?_))
    | (refine Nx.zo ?_; first | refine Nx.opr rfl rfl ?_ | refine Nx.callv rfl rfl rfl (by kernel_rfl) rfl (View_spec _ _ _ _ _ _ _ hl hs hv hw) ?_ | refine Nx.so ?_ | refine Nx.sb (fun bx => ?_) | refine Nx.sa (fun A2 c2 => ?_))
    | ((with_reducible refine Nx.is_at ?_); first | refine Nx.a ?_ | refine Nx.zd ?_ | refine Nx.zs (fun hc => ?_) (fun hc => ?_))
    | ((with_reducible refine Nx.is_mix ?_); first | refine Nx.m ?_ | refine Nx.zm ?_ | refine Nx.zt (fun hc => ?_) (fun hc => ?_))
    | refine Nx.zx ?_ | fail
  refine Nx.at_do rfl rfl rfl rfl ?_
  refine Nx.call rfl rfl rfl (by kernel_rfl) rfl (sizes_spec B cv v I hv (hw.szsOk hs).1 (hw.szsOk hs).2) (by (exact Ent.auto)) ?_
  rintro u R' ⟨As, cs, rfl, rfl⟩
  refine Nx.freezeAt 0 rfl fun I' m hle hm hvec => ?_
  have hz : Ints I' As cs (szs v) := Vec.sliceOf hm hvec
  repeat' first
    | ((with_reducible refine Nx.is_wp ?_); first | refine Nx.wo ?_ | refine Nx.zp (fun hc => ?_) (fun hc => ?_))
    | (refine Nx.zo ?_; first | refine Nx.opr rfl rfl ?_ | refine Nx.callv rfl rfl rfl (by kernel_rfl) rfl (product_spec _ _ _ _ hz (hw.sizes hs)) ?_ | refine Nx.so ?_ | refine Nx.sb (fun bx => ?_) | refine Nx.sa (fun A2 c2 => ?_))
    | ((with_reducible refine Nx.is_at ?_); first | refine Nx.a ?_ | refine Nx.zd ?_ | refine Nx.zs (fun hc => ?_) (fun hc => ?_))
    | ((with_reducible refine Nx.is_mix ?_); first | refine Nx.m ?_ | refine Nx.zm ?_ | refine Nx.zt (fun hc => ?_) (fun hc => ?_))
    | refine Nx.zx ?_ | fail
  refine Nx.at_op rfl rfl ?_
  refine Nx.call rfl rfl rfl (by kernel_rfl) rfl (published_spec A B c cv l v I' (hl.mono hle) hs (hv.mono hle) hw) (by (exact Ent.auto)) ?_
  rintro u R' ⟨Ap, cp, rfl, rfl⟩
  refine Nx.freezeAt 0 rfl fun I2 m2 hle2 hm2 hvec2 => ?_
  have hp : Ints I2 Ap cp (pubs l v) := Vec.sliceOf hm2 hvec2
  have hplen := hp.len
  repeat' first
    | ((with_reducible refine Nx.is_wp ?_); first | refine Nx.wo ?_ | refine Nx.zp (fun hc => ?_) (fun hc => ?_))
    | (refine Nx.zo ?_; first | refine Nx.opr rfl rfl ?_ | refine Nx.so ?_ | refine Nx.sb (fun bx => ?_) | refine Nx.sa (fun A2 c2 => ?_))
    | ((with_reducible refine Nx.is_at ?_); first | refine Nx.a ?_ | refine Nx.zd ?_ | refine Nx.zs (fun hc => ?_) (fun hc => ?_))
    | ((with_reducible refine Nx.is_mix ?_); first | refine Nx.m ?_ | refine Nx.zm ?_ | refine Nx.zt (fun hc => ?_) (fun hc => ?_))
    | refine Nx.zx ?_ | fail
  refine Nx.p_loop (σ := Nat × Option Addr × Nat) (fun s => [(2, .int .i64 k), (9, .slice s.2.1 (memK l v k s.1).length s.2.2), (29, .slice Ap (pubs l v).length cp), (30, .int .i64 (pubs l v).length), (31, .int .i64 (s.1 : Int))])
    (fun s => [Vec 3 1 s.2.1 (memK l v k s.1).length s.2.2 ((memK l v k s.1).map (Value.int .i64)), F]) (fun s => s.1 ≤ (pubs l v).length) (fun s => (pubs l v).length - s.1) (0, none, 0) rfl (Nat.zero_le _) ⟨rfl, rfl, rfl, rfl, rfl, trivial⟩ ((Ent.vec_nil _ _ _).trans (by (exact Ent.auto))) ?_
  rintro ⟨n, A', c'⟩ hn
  dsimp only at hn ⊢
  have hmk := memK_len l v k n
  have hms := memK_succ l v k n
  have hat : n < (pubs l v).length → (pubs l v).getD n default = pubOf l v n := fun h => pubs_at l v n (by omega)
  repeat' first
    | ((with_reducible refine Nx.is_wp ?_); first | refine Nx.wo ?_ | refine Nx.zp (fun hc => ?_) (fun hc => ?_))
    | (refine Nx.zo ?_; first | refine Nx.opr rfl rfl ?_ | refine Nx.indexAddr_nat rfl rfl rfl rfl rfl (by omega) (hp.isSome (by omega)) ?_ | refine Nx.load rfl rfl rfl (hp.rd (by omega)) ?_ | refine Nx.so ?_ | refine Nx.sb (fun bx => ?_) | refine Nx.sa (fun A2 c2 => ?_))
    | ((with_reducible refine Nx.is_at ?_); first | refine Nx.a ?_ | refine Nx.zd ?_ | refine Nx.zs (fun hc => ?_) (fun hc => ?_))
    | ((with_reducible refine Nx.is_mix ?_); first | refine Nx.m ?_ | refine Nx.zm ?_ | refine Nx.zt (fun hc => ?_) (fun hc => ?_))
    | refine Nx.zx ?_ | fail
  · rw [hat (by omega)] at hc
    rw [if_pos hc] at hms
    refine Nx.again (n + 1, A2, c2) (by dsimp only; omega) (by dsimp only; omega) ⟨rfl, by rw [hms, List.length_append]; rfl, rfl, rfl, rfl, trivial⟩ ?_
    refine Ent.pickE 0 rfl ?_ (by (exact Ent.auto))
    rw [hms, List.map_append, List.length_append]; rfl
  · rw [hat (by omega)] at hc
    rw [if_neg hc, List.append_nil] at hms
    refine Nx.again (n + 1, A', c') (by dsimp only; omega) (by dsimp only; omega) ⟨rfl, by rw [hms]; rfl, rfl, rfl, rfl, trivial⟩ ?_
    refine Ent.pickE 0 rfl ?_ (by (exact Ent.auto))
    rw [hms]
  · obtain rfl : n = (prod l).toNat := by omega
    exact Nx.imm_le (hle.trans hle2) (Nx.ret_fn rfl [_] ⟨A', c', rfl, rfl⟩ (by (exact Ent.auto)))
end Go.Proofs.YtjnhoemgceghlaaGreat
/- Contracts of functions of the given program, and lemmas about plain lists and numbers: what the laws of this seat lean on. -/
namespace Go.Proofs.YtjnhoemgceghlaaGreat
open Go.Eng
attribute [local irreducible] opK wpList Code.wp Exit.then Exit.inBlock fnPost bodyPost Nx Calls Oper.wp Rd Rds Wr Ent Stars Blk Again Vec FnSpec wpMix QRun Stop Upto wpAt
/-! Publish: sums of a table's numbers -/
def sumAt (p : Nat → Int) (t : List Int) (k : Int) : Nat → Int
  | 0 => 0
  | n + 1 => sumAt p t k n + if p n = k then t.getD n default else 0
theorem sumAt_bd {p : Nat → Int} {t : List Int} {k : Int} (ht : ∀ j, j < t.length → 0 ≤ t.getD j default ∧ t.getD j default ≤ 1000000) : ∀ n, n ≤ t.length → 0 ≤ sumAt p t k n ∧ sumAt p t k n ≤ n * 1000000
  | 0, _ => by simp [sumAt]
  | n + 1, h => by
    have ih := sumAt_bd ht n (by omega) (k := k) (p := p)
    have := ht n (by omega)
    simp only [sumAt]
    split <;> omega
def sums (p : Nat → Int) (t : List Int) (P n : Nat) : List Int := (List.range P).map fun j : Nat => sumAt p t (j : Int) n
theorem sums_len (p : Nat → Int) (t : List Int) (P n : Nat) : (sums p t P n).length = P := by simp [sums]
theorem sums_at (p : Nat → Int) (t : List Int) (P n j : Nat) (h : j < P) : (sums p t P n).getD j default = sumAt p t (j : Int) n := map_range_at _ _ _ h
theorem sums_set {p : Nat → Int} {t : List Int} {P n : Nat} {q : Nat} (hq : (q : Int) = p n) : (sums p t P n).set q ((sums p t P n).getD q default + t.getD n default) = sums p t P (n + 1) := by
  refine list_ext (by simp [sums]) fun j hj => ?_
  rw [List.length_set, sums_len] at hj
  rw [sums_at _ _ _ _ _ hj]
  simp only [sumAt]
  by_cases h : q = j
  · subst h
    rw [getD_set_eq (by rw [sums_len]; exact hj), sums_at _ _ _ _ _ hj, if_pos hq.symm]
  · rw [getD_set_ne h, sums_at _ _ _ _ _ hj, if_neg (by omega), Int.add_zero]
theorem sums_skip {p : Nat → Int} {t : List Int} {P n : Nat} (hq : p n = -1) : sums p t P (n + 1) = sums p t P n := by
  unfold sums
  refine List.map_congr_left fun j _ => ?_
  simp only [sumAt]
  rw [if_neg (by omega), Int.add_zero]
theorem sums_zero (p : Nat → Int) (t : List Int) (P : Nat) : sums p t P 0 = List.replicate P 0 := by
  unfold sums
  simp only [sumAt]
  rw [List.map_const', List.length_range]
structure Table (l t : List Int) : Prop where
  len : t.length = (prod l).toNat
  each : ∀ j, j < t.length → 0 ≤ t.getD j default ∧ t.getD j default ≤ 1000000
theorem Table.out {l t : List Int} (h : Table l t) : t.any outB = false := by
  rw [List.any_eq_false]
  intro x hx
  obtain ⟨k, hk, rfl⟩ := mem_getD hx
  have := h.each k hk
  unfold outB
  rw [decide_eq_true_eq]
  omega
set_option maxHeartbeats 8000000 in
set_option maxRecDepth 10000 in
theorem Publish_spec (A B T : Option Addr) (c cv ct : Nat) (l t : List Int) (v : List Row) (I : PH) (hl : Ints I A c l) (hs : Sizes l) (hv : RowsOf I B cv v) (hw : Viewed l v) (ht : Ints I T ct t) (hT : Table l t) :
    FnSpec Tryz.prog 10 [.agg #[.slice A l.length c], .agg #[.slice B v.length cv], .slice T t.length ct] I [] (fun u R' => ∃ A', u = .tuple #[.slice A' (prod (szs v)).toNat (prod (szs v)).toNat, .int .i64 0] ∧
      R' = [Vec 3 1 A' (prod (szs v)).toNat (prod (szs v)).toNat ((sums (pubOf l v) t (prod (szs v)).toNat t.length).map (Value.int .i64))]) := by
  have hpr := hs.bound (k := l.length) (Nat.le_refl _)
  rw [List.take_length] at hpr
  have hcl := hs.cells
  have hpl := pubs_len l v
  have hzb := (hw.sizes hs).bound (k := (szs v).length) (Nat.le_refl _)
  rw [List.take_length] at hzb
  have htl := hT.len
  refine FnSpec.enterP Tryz.func10 rfl Tryz.ntmps10 rfl fun w F => ?_
  repeat' first
    | ((with_reducible refine Nx.is_wp ?_); first | refine Nx.wo ?_ | refine Nx.zp (fun hc => ?_) (fun hc => ?_))
    | (refine Nx.zo ?_; first | refine Nx.opr rfl rfl ?_ | refine Nx.callv rfl rfl rfl (by kernel_rfl) rfl (View_spec _ _ _ _ _ _ _ hl hs hv hw) ?_ | refine Nx.callv rfl rfl rfl (by kernel_rfl) rfl (product_spec _ _ _ _ hl hs) ?_ | refine Nx.callv rfl rfl rfl (by kernel_rfl) rfl (ContainsFunc_spec 29 outB T ct t I ht (by kernel_rfl) (fun x => outB_spec x I)) ?_ | refine Nx.so ?_ | refine Nx.sb (fun bx => ?_) | refine Nx.sa (fun A2 c2 => ?_))
    | ((with_reducible refine Nx.is_at ?_); first | refine Nx.a ?_ | refine Nx.zd ?_ | refine Nx.zs (fun hc => ?_) (fun hc => ?_))
    | ((with_reducible refine Nx.is_mix ?_); first | refine Nx.m ?_ | refine Nx.zm ?_ | refine Nx.zt (fun hc => ?_) (fun hc => ?_))
    | refine Nx.zx ?_ | fail
  · exact absurd hc (by rw [hT.out]; decide)
  refine Nx.at_op rfl rfl ?_
  refine Nx.call rfl rfl rfl (by kernel_rfl) rfl (sizes_spec B cv v I hv (hw.szsOk hs).1 (hw.szsOk hs).2) (by (exact Ent.auto)) ?_
  rintro u R' ⟨As, cs, rfl, rfl⟩
  refine Nx.freezeAt 0 rfl fun I' m hle hm hvec => ?_
  have hz : Ints I' As cs (szs v) := Vec.sliceOf hm hvec
  refine Nx.at_op rfl rfl ?_
  refine Nx.callv rfl rfl rfl (by kernel_rfl) rfl (product_spec _ _ _ _ hz (hw.sizes hs)) ?_
  rw [show prod (szs v) = (((prod (szs v)).toNat : Nat) : Int) by omega]
  generalize hP : (prod (szs v)).toNat = P at hzb ⊢
  have hP48 : P ≤ 4096 := by omega
  repeat' first
    | ((with_reducible refine Nx.is_wp ?_); first | refine Nx.wo ?_ | refine Nx.zp (fun hc => ?_) (fun hc => ?_))
    | (refine Nx.zo ?_; first | refine Nx.opr rfl rfl ?_ | refine Nx.so ?_ | refine Nx.sb (fun bx => ?_) | refine Nx.sa (fun A2 c2 => ?_))
    | ((with_reducible refine Nx.is_at ?_); first | refine Nx.a ?_ | refine Nx.zd ?_ | refine Nx.zs (fun hc => ?_) (fun hc => ?_))
    | ((with_reducible refine Nx.is_mix ?_); first | refine Nx.m ?_ | refine Nx.zm ?_ | refine Nx.zt (fun hc => ?_) (fun hc => ?_))
    | refine Nx.zx ?_ | fail
  refine Nx.at_op rfl rfl ?_
  refine Nx.call rfl rfl rfl (by kernel_rfl) rfl (published_spec A B c cv l v I' (hl.mono hle) hs (hv.mono hle) hw) (by (exact Ent.auto)) ?_
  rintro u R' ⟨Ap, cp, rfl, rfl⟩
  refine Nx.freezeAt 0 rfl fun I2 m2 hle2 hm2 hvec2 => ?_
  have hp : Ints I2 Ap cp (pubs l v) := Vec.sliceOf hm2 hvec2
  have hplen := hp.len
  have ht2 := ht.mono (hle.trans hle2)
  repeat' first
    | ((with_reducible refine Nx.is_wp ?_); first | refine Nx.wo ?_ | refine Nx.zp (fun hc => ?_) (fun hc => ?_))
    | (refine Nx.zo ?_; first | refine Nx.opr rfl rfl ?_ | refine Nx.so ?_ | refine Nx.sb (fun bx => ?_) | refine Nx.sa (fun A2 c2 => ?_))
    | ((with_reducible refine Nx.is_at ?_); first | refine Nx.a ?_ | refine Nx.zd ?_ | refine Nx.zs (fun hc => ?_) (fun hc => ?_))
    | ((with_reducible refine Nx.is_mix ?_); first | refine Nx.m ?_ | refine Nx.zm ?_ | refine Nx.zt (fun hc => ?_) (fun hc => ?_))
    | refine Nx.zx ?_ | fail
  refine Nx.p_loop (σ := Nat) (fun s => [(2, .slice T t.length ct), (9, .slice (some ⟨bx, 0, none⟩) P P), (32, .slice Ap (pubs l v).length cp), (33, .int .i64 (pubs l v).length), (34, .int .i64 (s : Int))])
    (fun s => [Vec 3 1 (some ⟨bx, 0, none⟩) P P ((sums (pubOf l v) t P s).map (Value.int .i64)), F]) (fun s => s ≤ (pubs l v).length) (fun s => (pubs l v).length - s) 0 rfl (Nat.zero_le _) ⟨rfl, rfl, rfl, rfl, rfl, trivial⟩ (by rw [sums_zero]; (exact Ent.auto)) ?_
  intro n hn
  have hat : n < (pubs l v).length → (pubs l v).getD n default = pubOf l v n := fun h => pubs_at l v n (by omega)
  have hpb := pub_bd hs hw n
  have hsb := fun (k : Int) => sumAt_bd (p := pubOf l v) (k := k) hT.each n (by omega)
  have hsl := sums_len (pubOf l v) t P n
  by_cases hlt : n < (pubs l v).length
  · have hat := hat hlt
    have htn := hT.each n (by omega)
    repeat' first
      | ((with_reducible refine Nx.is_wp ?_); first | refine Nx.wo ?_ | refine Nx.zp (fun hc => ?_) (fun hc => ?_))
      | (refine Nx.zo ?_; first | refine Nx.opr rfl rfl ?_ | refine Nx.indexAddr_nat rfl rfl rfl rfl rfl (by omega) (hp.isSome (by omega)) ?_ | refine Nx.load rfl rfl rfl (hp.rd (by omega)) ?_ | refine Nx.so ?_ | refine Nx.sb (fun bx => ?_) | refine Nx.sa (fun A2 c2 => ?_))
      | ((with_reducible refine Nx.is_at ?_); first | refine Nx.a ?_ | refine Nx.zd ?_ | refine Nx.zs (fun hc => ?_) (fun hc => ?_))
      | ((with_reducible refine Nx.is_mix ?_); first | refine Nx.m ?_ | refine Nx.zm ?_ | refine Nx.zt (fun hc => ?_) (fun hc => ?_))
      | refine Nx.zx ?_ | fail
    · rw [hat] at hc
      obtain ⟨q, hq⟩ : ∃ q : Nat, pubOf l v n = q := ⟨(pubOf l v n).toNat, by omega⟩
      have hqP : q < P := by omega
      have hsq := hsb (q : Int)
      have hsa := sums_at (pubOf l v) t P n q hqP
      rw [hat, hq]
      repeat' first
        | ((with_reducible refine Nx.is_wp ?_); first | refine Nx.wo ?_ | refine Nx.p_draw (id := 13) rfl [0, 1, 2, 4, 5, 6, 7, 3, 8, 9, 10] [3, 10] [] rfl rfl (by kernel_rfl) (by kernel_rfl) rfl (by repeat first | exact PanicOk.fn | refine PanicOk.then_ ?_ | refine PanicOk.inB ?_) (Ent.nil _) ?_ | refine Nx.zp (fun hc => ?_) (fun hc => ?_))
        | (refine Nx.zo ?_; first | refine Nx.opr rfl rfl ?_ | refine Nx.load rfl rfl rfl (Rd.vecEl 0 rfl (by omega)) ?_ | refine Nx.so ?_ | refine Nx.sb (fun bx => ?_) | refine Nx.sa (fun A2 c2 => ?_))
        | ((with_reducible refine Nx.is_at ?_); first | refine Nx.a ?_ | refine Nx.zd ?_ | refine Nx.zs (fun hc => ?_) (fun hc => ?_))
        | ((with_reducible refine Nx.is_mix ?_); first | refine Nx.m_quiet rfl rfl rfl rfl rfl (by first | exact QRun.opr rfl | exact QRun.idx rfl rfl rfl rfl (by omega) rfl | exact QRun.idx rfl rfl rfl rfl (by omega) (ht2.isSome (by omega)) | exact QRun.load rfl rfl (ht2.rd (by omega))) ?_ | refine Nx.m_quiet_do rfl rfl rfl rfl rfl rfl rfl (by first | exact QRun.opr rfl | exact QRun.idx rfl rfl rfl rfl (by omega) rfl | exact QRun.idx rfl rfl rfl rfl (by omega) (ht2.isSome (by omega)) | exact QRun.load rfl rfl (ht2.rd (by omega))) ?_ | refine Nx.m ?_ | refine Nx.zm ?_ | refine Nx.zt (fun hc => ?_) (fun hc => ?_))
        | refine Nx.zx ?_ | fail
      refine Nx.again (n + 1) (by omega) (by omega) ⟨rfl, rfl, rfl, rfl, rfl, trivial⟩ ?_
      refine Ent.pickE 0 rfl ?_ (by (exact Ent.auto))
      rw [sums_set hq.symm]
    · rw [hat] at hc
      have hc : pubOf l v n = -1 := by omega
      refine Nx.again (n + 1) (by omega) (by omega) ⟨rfl, rfl, rfl, rfl, rfl, trivial⟩ ?_
      rw [sums_skip hc]
      (exact Ent.auto)
  · repeat' first
      | ((with_reducible refine Nx.is_wp ?_); first | refine Nx.wo ?_ | refine Nx.zp (fun hc => ?_) (fun hc => ?_))
      | (refine Nx.zo ?_; first | refine Nx.opr rfl rfl ?_ | refine Nx.so ?_ | refine Nx.sb (fun bx => ?_) | refine Nx.sa (fun A2 c2 => ?_))
      | ((with_reducible refine Nx.is_at ?_); first | refine Nx.a ?_ | refine Nx.zd ?_ | refine Nx.zs (fun hc => ?_) (fun hc => ?_))
      | ((with_reducible refine Nx.is_mix ?_); first | refine Nx.m ?_ | refine Nx.zm ?_ | refine Nx.zt (fun hc => ?_) (fun hc => ?_))
      | refine Nx.zx ?_ | fail
    obtain rfl : n = t.length := by omega
    exact Nx.imm_le (hle.trans hle2) (Nx.ret_fn rfl [_] ⟨_, rfl, rfl⟩ (by (exact Ent.auto)))
end Go.Proofs.YtjnhoemgceghlaaGreat
/- Contracts of functions of the given program, and lemmas about plain lists and numbers: what the laws of this seat lean on. -/
namespace Go.Proofs.YtjnhoemgceghlaaGreat
open Go.Eng
attribute [local irreducible] opK wpList Code.wp Exit.then Exit.inBlock fnPost bodyPost Nx Calls Oper.wp Rd Rds Wr Ent Stars Blk Again Vec FnSpec wpMix QRun Stop Upto wpAt
/-! The reference's places, and the published cell of a cell -/
set_option maxHeartbeats 8000000 in
set_option maxRecDepth 10000 in
theorem RAt_spec (A : Option Addr) (c : Nat) (l : List Int) (n : Int) (I : PH) (hl : Ints I A c l) (hs : Sizes l) (hn : 0 ≤ n ∧ n < prod l) :
    FnSpec Tryz.prog 100 [.agg #[.slice A l.length c], .int .i64 n] I [] (fun v R' => ∃ b xs, v = .tuple #[.slice (some ⟨b, 0, none⟩) xs.length xs.length, .int .i64 0] ∧ InR l xs ∧ numK l xs l.length = n ∧ R' = [Vec 3 1 (some ⟨b, 0, none⟩) xs.length xs.length (xs.map (Value.int .i64))]) := by
  have hlen := hl.len
  have hd := hs.dims
  refine FnSpec.enterP Tryz.func100 rfl Tryz.ntmps100 rfl fun w F => ?_
  repeat' first
    | ((with_reducible refine Nx.is_wp ?_); first | refine Nx.wo ?_ | refine Nx.zp (fun hc => ?_) (fun hc => ?_))
    | (refine Nx.zo ?_; first | refine Nx.opr rfl rfl ?_ | refine Nx.callv rfl rfl rfl (by kernel_rfl) rfl (RCheck_spec _ _ _ _ hl hs) ?_ | refine Nx.callv rfl rfl rfl (by kernel_rfl) rfl (RCount_spec _ _ _ _ hl hs) ?_ | refine Nx.so ?_ | refine Nx.sb (fun bx => ?_) | refine Nx.sa (fun A2 c2 => ?_))
    | ((with_reducible refine Nx.is_at ?_); first | refine Nx.a ?_ | refine Nx.zd ?_ | refine Nx.zs (fun hc => ?_) (fun hc => ?_))
    | ((with_reducible refine Nx.is_mix ?_); first | refine Nx.m ?_ | refine Nx.zm ?_ | refine Nx.zt (fun hc => ?_) (fun hc => ?_))
    | refine Nx.zx ?_ | fail
  rename_i b2
  refine Nx.p_loop (σ := Nat × List Int × Int) (fun s => [(2, .pointer (some ⟨b2, 0, none⟩)), (1, .int .i64 s.2.2), (7, .slice (some ⟨bx, 0, none⟩) l.length l.length), (8, .int .i64 ((s.1 : Int) - 1))])
    (fun s => [Vec 3 1 (some ⟨bx, 0, none⟩) l.length l.length (s.2.1.map (Value.int .i64)), Blk b2 27 [.slice A l.length c], F]) (PlOk l n) (fun s => s.1) (l.length, List.replicate l.length 0, n) rfl
    ⟨Nat.le_refl _, by simp, ⟨hn.1, by rw [List.take_length]; exact hn.2⟩, fun i h1 h2 => absurd h2 (Nat.not_lt.2 h1), by show contF l _ (l.length - l.length) _ n = n; rw [Nat.sub_self]; rfl, fun h => absurd h (Nat.lt_irrefl _), fun _ => rfl⟩ ⟨rfl, rfl, rfl, rfl, trivial⟩ (by (exact Ent.auto)) ?_
  rintro ⟨j, xs, m⟩ hok
  dsimp only
  rcases j with _ | j
  · repeat' first
      | ((with_reducible refine Nx.is_wp ?_); first | refine Nx.wo ?_ | refine Nx.zp (fun hc => ?_) (fun hc => ?_))
      | (refine Nx.zo ?_; first | refine Nx.opr rfl rfl ?_ | refine Nx.so ?_ | refine Nx.sb (fun bx => ?_) | refine Nx.sa (fun A2 c2 => ?_))
      | ((with_reducible refine Nx.is_at ?_); first | refine Nx.a ?_ | refine Nx.zd ?_ | refine Nx.zs (fun hc => ?_) (fun hc => ?_))
      | ((with_reducible refine Nx.is_mix ?_); first | refine Nx.m ?_ | refine Nx.zm ?_ | refine Nx.zt (fun hc => ?_) (fun hc => ?_))
      | refine Nx.zx ?_ | fail
    have h0 : m = 0 := by have := hok.m; simp [prod] at this; omega
    have h1 : xs.length = l.length := hok.len
    refine Nx.ret_fn rfl [_] ⟨bx, xs, by rw [h1], ⟨h1, fun k hk => hok.each k (Nat.zero_le _) hk⟩, ?_, by rw [h1]⟩ (by (exact Ent.auto))
    have h2 := hok.num
    subst h0
    have h3 := contF_num l xs l.length 0
    rw [Nat.zero_add] at h3
    rw [← h3]
    exact h2
  · have hle : j + 1 ≤ l.length := hok.le
    have hxl : xs.length = l.length := hok.len
    have hm := hok.m
    have hb := hs.bound hle
    have hat := hs.at (k := j) (by omega)
    have hm1 : 0 ≤ m ∧ m < prod (l.take (j + 1)) := hm
    rw [show (((j + 1 : Nat) : Int) - 1) = (j : Int) by omega]
    repeat' first
      | ((with_reducible refine Nx.is_wp ?_); first | refine Nx.wo ?_ | refine Nx.zp (fun hc => ?_) (fun hc => ?_))
      | (refine Nx.zo ?_; first | refine Nx.opr rfl rfl ?_ | refine Nx.indexAddr_nat rfl rfl rfl rfl rfl (by omega) (hl.isSome (by omega)) ?_ | refine Nx.indexAddr_nat rfl rfl rfl rfl rfl (by omega) rfl ?_ | refine Nx.load rfl rfl rfl (hl.rd (by omega)) ?_ | refine Nx.so ?_ | refine Nx.sb (fun bx => ?_) | refine Nx.sa (fun A2 c2 => ?_))
      | ((with_reducible refine Nx.is_at ?_); first | refine Nx.a ?_ | refine Nx.zd ?_ | refine Nx.zs (fun hc => ?_) (fun hc => ?_))
      | ((with_reducible refine Nx.is_mix ?_); first | refine Nx.m ?_ | refine Nx.zm ?_ | refine Nx.zt (fun hc => ?_) (fun hc => ?_))
      | refine Nx.zx ?_ | fail
    exact Nx.again (j, xs.set j (m % l.getD j default), m / l.getD j default) (hok.step hs) (by dsimp only; omega) ⟨rfl, rfl, rfl, rfl, trivial⟩ (by (exact Ent.auto))
def grpK (l : List Int) : Nat → Int
  | 0 => 0
  | k + 1 => max (grpK l k) (l.getD k default + 1)
theorem grpK_eq (l : List Int) : ∀ k, grpK l (k + 1) = max 0 (1 + maxL l k)
  | 0 => by simp only [grpK, maxL]; omega
  | k + 1 => by
    have := grpK_eq l k
    simp only [grpK, maxL] at this ⊢
    omega
theorem grpK_bd (l : List Int) (h : ∀ k, k < l.length → -1 ≤ l.getD k default ∧ l.getD k default ≤ 1000) : ∀ k, k ≤ l.length → 0 ≤ grpK l k ∧ grpK l k ≤ 1001
  | 0, _ => by simp [grpK]
  | k + 1, hk => by
    have ih := grpK_bd l h k (by omega)
    have := h k (by omega)
    simp only [grpK]; omega
set_option maxHeartbeats 8000000 in
set_option maxRecDepth 10000 in
theorem Groups_spec (A : Option Addr) (c : Nat) (l : List Int) (I : PH) (hl : Ints I A c l) (hg : Grouped l) (h8 : l.length ≤ 1000) :
    FnSpec Tryz.prog 99 [.slice A l.length c] I [] (fun v R' => v = .int .i64 (1 + maxL l (l.length - 1)) ∧ R' = []) := by
  have hlen := hl.len
  have hm := hg.max
  have hp := hg.pos
  have he : ∀ k, k < l.length → -1 ≤ l.getD k default ∧ l.getD k default ≤ 1000 := fun k hk => by have := hg.each k hk; omega
  have hlast : grpK l l.length = 1 + maxL l (l.length - 1) := by
    have := grpK_eq l (l.length - 1)
    rw [show l.length - 1 + 1 = l.length by omega] at this
    omega
  refine FnSpec.enterP Tryz.func99 rfl Tryz.ntmps99 rfl fun w F => ?_
  repeat' first
    | ((with_reducible refine Nx.is_wp ?_); first | refine Nx.wo ?_ | refine Nx.zp (fun hc => ?_) (fun hc => ?_))
    | (refine Nx.zo ?_; first | refine Nx.opr rfl rfl ?_ | refine Nx.so ?_ | refine Nx.sb (fun bx => ?_) | refine Nx.sa (fun A2 c2 => ?_))
    | ((with_reducible refine Nx.is_at ?_); first | refine Nx.a ?_ | refine Nx.zd ?_ | refine Nx.zs (fun hc => ?_) (fun hc => ?_))
    | ((with_reducible refine Nx.is_mix ?_); first | refine Nx.m ?_ | refine Nx.zm ?_ | refine Nx.zt (fun hc => ?_) (fun hc => ?_))
    | refine Nx.zx ?_ | fail
  refine Nx.p_loop (σ := Nat) (fun k => [(6, .slice A l.length c), (7, .int .i64 l.length), (8, .int .i64 (k : Int)), (3, .int .i64 (grpK l k))])
    (fun _ => [F]) (fun k => k ≤ l.length) (fun k => l.length - k) 0 rfl (Nat.zero_le _) ⟨rfl, rfl, rfl, rfl, trivial⟩ (by (exact Ent.auto)) ?_
  intro k hk
  have hb := grpK_bd l he k hk
  have hek := he k
  repeat' first
    | ((with_reducible refine Nx.is_wp ?_); first | refine Nx.wo ?_ | refine Nx.zp (fun hc => ?_) (fun hc => ?_))
    | (refine Nx.zo ?_; first | refine Nx.opr rfl rfl ?_ | refine Nx.indexAddr_nat rfl rfl rfl rfl rfl (by omega) (hl.isSome (by omega)) ?_ | refine Nx.load rfl rfl rfl (hl.rd (by omega)) ?_ | refine Nx.so ?_ | refine Nx.sb (fun bx => ?_) | refine Nx.sa (fun A2 c2 => ?_))
    | ((with_reducible refine Nx.is_at ?_); first | refine Nx.a ?_ | refine Nx.zd ?_ | refine Nx.zs (fun hc => ?_) (fun hc => ?_))
    | ((with_reducible refine Nx.is_mix ?_); first | refine Nx.m ?_ | refine Nx.zm ?_ | refine Nx.zt (fun hc => ?_) (fun hc => ?_))
    | refine Nx.zx ?_ | fail
  · exact Nx.again (k + 1) (by omega) (by omega) ⟨rfl, rfl, rfl, rfl, trivial⟩ (Ent.refl _)
  · obtain rfl : k = l.length := by omega
    exact Nx.ret_fn rfl [] ⟨by rw [hlast], rfl⟩ (Ent.refl _)
theorem take_lt_no {gs : List Int} (h : ∀ k, k < gs.length → 0 ≤ gs.getD k default) : gs.contains (-1) = false := by
  rw [List.contains_eq_mem, decide_eq_false_iff_not]
  intro hm
  obtain ⟨k, hk, he⟩ := mem_getD hm
  have := h k hk
  omega
theorem has_neg {gs : List Int} {k : Nat} (hk : k < gs.length) (h : gs.getD k default = -1) : gs.contains (-1) = true := by
  rw [List.contains_eq_mem, ← h]
  exact decide_eq_true (getD_mem hk)
/-- Sums of numbers of places, one place more at a time. -/
theorem numK_pre {s gs : List Int} {i : Nat} (hg : ∀ k, k < i → 0 ≤ gs.getD k default ∧ gs.getD k default < s.getD k default) (hi : i ≤ s.length) : 0 ≤ numK s gs i ∧ numK s gs i < prod (s.take i) := by
  induction i with
  | zero => simp [numK, prod]
  | succ i ih =>
    simp only [numK]
    exact mul_add_lt (ih (fun k hk => hg k (by omega)) (by omega)) (hg i (by omega)) (prod_succ s i (by omega))
set_option maxHeartbeats 8000000 in
set_option maxRecDepth 10000 in
theorem Of_spec (A B : Option Addr) (c cv : Nat) (l : List Int) (v : List Row) (n : Nat) (I : PH) (hl : Ints I A c l) (hs : Sizes l) (hv : RowsOf I B cv v) (hw : Viewed l v) (hn : (n : Int) < prod l) :
    FnSpec Tryz.prog 76 [.agg #[.slice A l.length c], .agg #[.slice B v.length cv], .int .i64 n] I [] (fun u R' => u = .int .i64 (pubOf l v n) ∧ R' = []) := by
  have hd := hs.dims
  have hvl := hw.len
  have hsl := szs_len v
  have hss := hw.sizes hs
  refine FnSpec.enterP Tryz.func76 rfl Tryz.ntmps76 rfl fun w F => ?_
  repeat' first
    | ((with_reducible refine Nx.is_wp ?_); first | refine Nx.wo ?_ | refine Nx.zp (fun hc => ?_) (fun hc => ?_))
    | (refine Nx.zo ?_; first | refine Nx.opr rfl rfl ?_ | refine Nx.so ?_ | refine Nx.sb (fun bx => ?_) | refine Nx.sa (fun A2 c2 => ?_))
    | ((with_reducible refine Nx.is_at ?_); first | refine Nx.a ?_ | refine Nx.zd ?_ | refine Nx.zs (fun hc => ?_) (fun hc => ?_))
    | ((with_reducible refine Nx.is_mix ?_); first | refine Nx.m ?_ | refine Nx.zm ?_ | refine Nx.zt (fun hc => ?_) (fun hc => ?_))
    | refine Nx.zx ?_ | fail
  refine Nx.at_op rfl rfl ?_
  refine Nx.call rfl rfl rfl (by kernel_rfl) rfl (RAt_spec A c l n I hl hs (by omega)) (by (exact Ent.auto)) ?_
  rintro u R' ⟨bp, xs, rfl, hr, hnum, rfl⟩
  refine Nx.freezeAt 0 rfl fun I' m hle hm hvec => ?_
  have hxs : Ints I' (some ⟨bp, 0, none⟩) xs.length xs := Vec.sliceOf hm hvec
  have hv' := hv.mono hle
  have hpl := pl_of hs hr hnum
  have hxl := hr.len
  have hgl : (gsOf v xs).length = v.length := gsOf_len v xs
  have hpub : pubOf l v n = if (gsOf v xs).contains (-1) then -1 else numK (szs v) (gsOf v xs) v.length := by rw [hpl]; rfl
  repeat' first
    | ((with_reducible refine Nx.is_wp ?_); first | refine Nx.wo ?_ | refine Nx.zp (fun hc => ?_) (fun hc => ?_))
    | (refine Nx.zo ?_; first | refine Nx.opr rfl rfl ?_ | refine Nx.so ?_ | refine Nx.sb (fun bx => ?_) | refine Nx.sa (fun A2 c2 => ?_))
    | ((with_reducible refine Nx.is_at ?_); first | refine Nx.a ?_ | refine Nx.zd ?_ | refine Nx.zs (fun hc => ?_) (fun hc => ?_))
    | ((with_reducible refine Nx.is_mix ?_); first | refine Nx.m ?_ | refine Nx.zm ?_ | refine Nx.zt (fun hc => ?_) (fun hc => ?_))
    | refine Nx.zx ?_ | fail
  rename_i b3
  refine Nx.p_loop (σ := Nat) (fun i => [(4, .pointer (some ⟨bx, 0, none⟩)), (9, .int .i64 (numK (szs v) (gsOf v xs) i)), (19, .slice (some ⟨bp, 0, none⟩) xs.length xs.length), (20, .int .i64 xs.length), (21, .int .i64 (i : Int))])
    (fun _ => [Blk bx 35 [.slice B v.length cv], F]) (fun i => i ≤ xs.length ∧ ∀ k, k < i → 0 ≤ (gsOf v xs).getD k default) (fun i => xs.length - i) 0 rfl ⟨Nat.zero_le _, fun k hk => absurd hk (Nat.not_lt_zero _)⟩ ⟨rfl, rfl, rfl, rfl, rfl, trivial⟩ (by (exact Ent.auto)) ?_
  rintro i ⟨hi, hpos⟩
  have hxi := hr.each i
  have hwi := hw.each i
  have hgi : i < v.length → (gsOf v xs).getD i default = (v.getD i default).2.2.getD (xs.getD i default).toNat default := gsOf_at v xs i
  have hpre := numK_pre (i := i) (fun k hk => ⟨hpos k hk, (gsOf_bd hw hr (by omega)).2⟩) (by omega)
  have hbd := hss.bound (k := i) (by omega)
  by_cases hlt : i < xs.length
  · have hgi := hgi (by omega)
    have hgb := gsOf_bd hw hr (k := i) (by omega)
    have hzi := szs_at v i (by omega)
    have hz8 := hw.szs (k := i) (by omega)
    have hli := hs.at (k := i) (by omega)
    have hmul : 0 ≤ numK (szs v) (gsOf v xs) i * (szs v).getD i default ∧ numK (szs v) (gsOf v xs) i * (szs v).getD i default ≤ 4096 * 8 := ⟨Int.mul_nonneg hpre.1 (by omega), Int.mul_le_mul (by omega) (by omega) (by omega) (by omega)⟩
    rw [hzi] at hmul
    repeat' first
      | ((with_reducible refine Nx.is_wp ?_); first | refine Nx.wo ?_ | refine Nx.zp (fun hc => ?_) (fun hc => ?_))
      | (refine Nx.zo ?_; first | refine Nx.opr rfl rfl ?_ | refine Nx.indexAddr_nat rfl rfl rfl rfl rfl (by omega) (hv'.outer.isSome (by omega)) ?_ | refine Nx.indexAddr_nat rfl rfl rfl rfl rfl (by omega) rfl ?_ | refine Nx.load rfl rfl rfl (hxs.rd (by omega)) ?_ | refine Nx.load rfl rfl rfl (hv'.outer.rd (by omega)) ?_ | refine Nx.indexAddr rfl rfl rfl rfl rfl (by omega) (by omega) ((hv'.at (by omega)).isSome (by omega)) ?_ | refine Nx.load rfl rfl rfl ((hv'.at (by omega)).rd (by omega)) ?_ | refine Nx.callv rfl rfl rfl (by kernel_rfl) rfl (Groups_spec _ _ _ _ (hv'.at (by omega)) (hw.grouped (by omega)) (by omega)) ?_ | refine Nx.so ?_ | refine Nx.sb (fun bx => ?_) | refine Nx.sa (fun A2 c2 => ?_))
      | ((with_reducible refine Nx.is_at ?_); first | refine Nx.a ?_ | refine Nx.zd ?_ | refine Nx.zs (fun hc => ?_) (fun hc => ?_))
      | ((with_reducible refine Nx.is_mix ?_); first | refine Nx.m ?_ | refine Nx.zm ?_ | refine Nx.zt (fun hc => ?_) (fun hc => ?_))
      | refine Nx.zx ?_ | fail
    · rw [← hgi] at hc
      refine Nx.imm_le hle (Nx.ret_fn rfl [] ⟨?_, rfl⟩ (by (exact Ent.auto)))
      rw [hpub, if_pos (has_neg (k := i) (by omega) (by omega))]
    · rw [← hgi] at hc
      refine Nx.again (i + 1) ⟨by omega, fun k hk => ?_⟩ (by omega) ⟨rfl, ?_, rfl, rfl, rfl, trivial⟩ (by (exact Ent.auto))
      · by_cases hki : k = i
        · subst hki; omega
        · exact hpos k (by omega)
      · simp only [numK]
        rw [hzi, hgi]
        rfl
  · obtain rfl : i = xs.length := by omega
    repeat' first
      | ((with_reducible refine Nx.is_wp ?_); first | refine Nx.wo ?_ | refine Nx.zp (fun hc => ?_) (fun hc => ?_))
      | (refine Nx.zo ?_; first | refine Nx.opr rfl rfl ?_ | refine Nx.so ?_ | refine Nx.sb (fun bx => ?_) | refine Nx.sa (fun A2 c2 => ?_))
      | ((with_reducible refine Nx.is_at ?_); first | refine Nx.a ?_ | refine Nx.zd ?_ | refine Nx.zs (fun hc => ?_) (fun hc => ?_))
      | ((with_reducible refine Nx.is_mix ?_); first | refine Nx.m ?_ | refine Nx.zm ?_ | refine Nx.zt (fun hc => ?_) (fun hc => ?_))
      | refine Nx.zx ?_ | fail
    refine Nx.imm_le hle (Nx.ret_fn rfl [] ⟨?_, rfl⟩ (by (exact Ent.auto)))
    rw [hpub, if_neg (by rw [take_lt_no (fun k hk => hpos k (by omega))]; decide), show v.length = xs.length by omega]
end Go.Proofs.YtjnhoemgceghlaaGreat
/- Contracts of functions of the given program, and lemmas about plain lists and numbers: what the laws of this seat lean on. -/
namespace Go.Proofs.YtjnhoemgceghlaaGreat
open Go.Eng
attribute [local irreducible] opK wpList Code.wp Exit.then Exit.inBlock fnPost bodyPost Nx Calls Oper.wp Rd Rds Wr Ent Stars Blk Again Vec FnSpec wpMix QRun Stop Upto wpAt
/-! The reference's views: right ones -/
set_option maxRecDepth 10000 in
set_option maxHeartbeats 4000000 in
theorem RView_spec (A B : Option Addr) (c cv : Nat) (l : List Int) (v : List Row) (I : PH) (hl : Ints I A c l) (hs : Sizes l) (hv : RowsOf I B cv v) (hw : Viewed l v) :
    FnSpec Tryz.prog 74 [.agg #[.slice A l.length c], .agg #[.slice B v.length cv]] I [] (fun u R' => u = .int .i64 0 ∧ R' = []) := by
  have hlen := hl.len
  have hvl := hw.len
  have hvlen := hv.outer.len
  refine FnSpec.enterP Tryz.func74 rfl Tryz.ntmps74 rfl fun w F => ?_
  repeat' first
    | ((with_reducible refine Nx.is_wp ?_); first | refine Nx.wo ?_ | refine Nx.zp (fun hc => ?_) (fun hc => ?_))
    | (refine Nx.zo ?_; first | refine Nx.opr rfl rfl ?_ | refine Nx.callv rfl rfl rfl (by kernel_rfl) rfl (RCheck_spec _ _ _ _ hl hs) ?_ | refine Nx.so ?_ | refine Nx.sb (fun bx => ?_) | refine Nx.sa (fun A2 c2 => ?_))
    | ((with_reducible refine Nx.is_at ?_); first | refine Nx.a ?_ | refine Nx.zd ?_ | refine Nx.zs (fun hc => ?_) (fun hc => ?_))
    | ((with_reducible refine Nx.is_mix ?_); first | refine Nx.m ?_ | refine Nx.zm ?_ | refine Nx.zt (fun hc => ?_) (fun hc => ?_))
    | refine Nx.zx ?_ | fail
  rename_i b2
  revert bx; intro b3
  refine Nx.p_loop (σ := Nat) (fun i => [(2, .pointer (some ⟨b2, 0, none⟩)), (24, .slice B v.length cv), (25, .int .i64 v.length), (26, .int .i64 (i : Int))])
    (fun _ => [Blk b3 35 [.slice B v.length cv], Blk b2 27 [.slice A l.length c], F]) (fun i => i ≤ v.length) (fun i => v.length - i) 0 rfl (Nat.zero_le _) ⟨rfl, rfl, rfl, rfl, trivial⟩ (by (exact Ent.auto)) ?_
  intro i hi
  have hi : i ≤ v.length := hi
  by_cases hiv : i < v.length
  case neg =>
    repeat' first
      | ((with_reducible refine Nx.is_wp ?_); first | refine Nx.wo ?_ | refine Nx.zp (fun hc => ?_) (fun hc => ?_))
      | (refine Nx.zo ?_; first | refine Nx.opr rfl rfl ?_ | refine Nx.so ?_ | refine Nx.sb (fun bx => ?_) | refine Nx.sa (fun A2 c2 => ?_))
      | ((with_reducible refine Nx.is_at ?_); first | refine Nx.a ?_ | refine Nx.zd ?_ | refine Nx.zs (fun hc => ?_) (fun hc => ?_))
      | ((with_reducible refine Nx.is_mix ?_); first | refine Nx.m ?_ | refine Nx.zm ?_ | refine Nx.zt (fun hc => ?_) (fun hc => ?_))
      | refine Nx.zx ?_ | fail
    exact Nx.ret_fn rfl [] ⟨rfl, rfl⟩ (by (exact Ent.auto))
  have hrow := hv.at hiv
  have hea := hw.each i (by omega)
  have hrd : ∀ (W : World) (R : List Res), Rd W I R ((ad B).add (i * 1)) (rowV (v.getD i default)) := fun W R => hv.outer.rd hiv
  have hsz : ∀ (W : World) (R : List Res), Rd W I R ((ad A).add (i * 1)) (.int .i64 (l.getD i default)) := fun W R => hl.rd (by omega)
  generalize v.getD i default = rw' at hrow hea hrd
  obtain ⟨G, cg, g⟩ := rw'
  dsimp only at hrow hea
  replace hrd : ∀ (W : World) (R : List Res), Rd W I R ((ad B).add (i * 1)) (.slice G g.length cg) := hrd
  obtain ⟨hgl, hnb⟩ := hea
  rw [← hgl] at hsz
  have hglen := hrow.len
  obtain ⟨m, hm, hm0⟩ : ∃ m, numb g 0 = some m ∧ 0 < m := by
    unfold numbB at hnb
    split at hnb
    · rename_i m hm; exact ⟨m, hm, of_decide_eq_true hnb⟩
    · cases hnb
  repeat' first
    | ((with_reducible refine Nx.is_wp ?_); first | refine Nx.wo ?_ | refine Nx.zp (fun hc => ?_) (fun hc => ?_))
    | (refine Nx.zo ?_; first | refine Nx.opr rfl rfl ?_ | refine Nx.indexAddr_nat (A := B) (i := i) (sz := 1) rfl rfl rfl rfl rfl (by omega) (hv.outer.isSome (by omega)) ?_ | refine Nx.load rfl rfl rfl (hrd _ _) ?_ | refine Nx.indexAddr_nat (A := A) (i := i) (sz := 1) rfl rfl rfl rfl rfl (by omega) (hl.isSome (by omega)) ?_ | refine Nx.load rfl rfl rfl (hsz _ _) ?_ | refine Nx.so ?_ | refine Nx.sb (fun bx => ?_) | refine Nx.sa (fun A2 c2 => ?_))
    | ((with_reducible refine Nx.is_at ?_); first | refine Nx.a ?_ | refine Nx.zd ?_ | refine Nx.zs (fun hc => ?_) (fun hc => ?_))
    | ((with_reducible refine Nx.is_mix ?_); first | refine Nx.m ?_ | refine Nx.zm ?_ | refine Nx.zt (fun hc => ?_) (fun hc => ?_))
    | refine Nx.zx ?_ | fail
  refine Nx.p_loop (σ := Nat × Int) (fun s => [(2, .pointer (some ⟨b2, 0, none⟩)), (24, .slice B v.length cv), (25, .int .i64 v.length), (26, .int .i64 (i : Int)), (39, .slice G g.length cg), (40, .int .i64 g.length), (41, .int .i64 (s.1 : Int)), (8, .int .i64 s.2)])
    (fun _ => [Blk b3 35 [.slice B v.length cv], Blk b2 27 [.slice A l.length c], F]) (fun s => s.1 ≤ g.length ∧ 0 ≤ s.2 ∧ s.2 ≤ s.1 ∧ numb g 0 = numb (g.drop s.1) s.2) (fun s => g.length - s.1) (0, 0) rfl ⟨Nat.zero_le _, by decide, by simp, rfl⟩ ⟨rfl, rfl, rfl, rfl, rfl, rfl, rfl, rfl, trivial⟩ (by (exact Ent.auto)) ?_
  rintro ⟨k, nx⟩ ⟨hk, h0, h1, he⟩
  dsimp only at hk h0 h1 he ⊢
  by_cases hkg : k < g.length
  case neg =>
    rw [List.drop_eq_nil_of_le (by omega)] at he
    have hnm : nx = m := by rw [hm] at he; exact (Option.some.inj he).symm
    repeat' first
      | ((with_reducible refine Nx.is_wp ?_); first | refine Nx.wo ?_ | refine Nx.zp (fun hc => ?_) (fun hc => ?_))
      | (refine Nx.zo ?_; first | refine Nx.opr rfl rfl ?_ | refine Nx.so ?_ | refine Nx.sb (fun bx => ?_) | refine Nx.sa (fun A2 c2 => ?_))
      | ((with_reducible refine Nx.is_at ?_); first | refine Nx.a ?_ | refine Nx.zd ?_ | refine Nx.zs (fun hc => ?_) (fun hc => ?_))
      | ((with_reducible refine Nx.is_mix ?_); first | refine Nx.m ?_ | refine Nx.zm ?_ | refine Nx.zt (fun hc => ?_) (fun hc => ?_))
      | refine Nx.zx ?_ | fail
    exact Nx.again (i + 1) hiv (by omega) ⟨rfl, rfl, rfl, rfl, trivial⟩ (by (exact Ent.auto))
  have hd : numb g 0 = if g.getD k default < -1 ∨ nx < g.getD k default then none else numb (g.drop (k + 1)) (if g.getD k default = nx then nx + 1 else nx) := by rw [he, drop_at hkg]; rfl
  have hok : ¬ (g.getD k default < -1 ∨ nx < g.getD k default) := fun h => by rw [if_pos h, hm] at hd; cases hd
  rw [if_neg hok] at hd
  have hgr : ∀ (W : World) (R : List Res), Rd W I R ((ad G).add (k * 1)) (.int .i64 (g.getD k default)) := fun W R => hrow.rd hkg
  generalize g.getD k default = y at hd hok hgr
  by_cases hyn : y = nx
  · rw [if_pos hyn] at hd
    repeat' first
      | ((with_reducible refine Nx.is_wp ?_); first | refine Nx.wo ?_ | refine Nx.zp (fun hc => ?_) (fun hc => ?_))
      | (refine Nx.zo ?_; first | refine Nx.opr rfl rfl ?_ | refine Nx.indexAddr_nat (A := G) (i := k) (sz := 1) rfl rfl rfl rfl rfl (by omega) (hrow.isSome (by omega)) ?_ | refine Nx.load rfl rfl rfl (hgr _ _) ?_ | refine Nx.so ?_ | refine Nx.sb (fun bx => ?_) | refine Nx.sa (fun A2 c2 => ?_))
      | ((with_reducible refine Nx.is_at ?_); first | refine Nx.a ?_ | refine Nx.zd ?_ | refine Nx.zs (fun hc => ?_) (fun hc => ?_))
      | ((with_reducible refine Nx.is_mix ?_); first | refine Nx.m ?_ | refine Nx.zm ?_ | refine Nx.zt (fun hc => ?_) (fun hc => ?_))
      | refine Nx.zx ?_ | fail
    exact Nx.again (k + 1, nx + 1) ⟨hkg, by dsimp only; omega, by dsimp only; omega, hd⟩ (by dsimp only; omega) ⟨rfl, rfl, rfl, rfl, rfl, rfl, rfl, rfl, trivial⟩ (by (exact Ent.auto))
  · rw [if_neg hyn] at hd
    repeat' first
      | ((with_reducible refine Nx.is_wp ?_); first | refine Nx.wo ?_ | refine Nx.zp (fun hc => ?_) (fun hc => ?_))
      | (refine Nx.zo ?_; first | refine Nx.opr rfl rfl ?_ | refine Nx.indexAddr_nat (A := G) (i := k) (sz := 1) rfl rfl rfl rfl rfl (by omega) (hrow.isSome (by omega)) ?_ | refine Nx.load rfl rfl rfl (hgr _ _) ?_ | refine Nx.so ?_ | refine Nx.sb (fun bx => ?_) | refine Nx.sa (fun A2 c2 => ?_))
      | ((with_reducible refine Nx.is_at ?_); first | refine Nx.a ?_ | refine Nx.zd ?_ | refine Nx.zs (fun hc => ?_) (fun hc => ?_))
      | ((with_reducible refine Nx.is_mix ?_); first | refine Nx.m ?_ | refine Nx.zm ?_ | refine Nx.zt (fun hc => ?_) (fun hc => ?_))
      | refine Nx.zx ?_ | fail
    exact Nx.again (k + 1, nx) ⟨hkg, by dsimp only; omega, by dsimp only; omega, hd⟩ (by dsimp only; omega) ⟨rfl, rfl, rfl, rfl, rfl, rfl, rfl, rfl, trivial⟩ (by (exact Ent.auto))
set_option maxRecDepth 10000 in
set_option maxHeartbeats 4000000 in
theorem RPublished_spec (A B : Option Addr) (c cv : Nat) (l : List Int) (v : List Row) (I : PH) (hl : Ints I A c l) (hs : Sizes l) (hv : RowsOf I B cv v) (hw : Viewed l v) :
    FnSpec Tryz.prog 75 [.agg #[.slice A l.length c], .agg #[.slice B v.length cv]] I [] (fun u R' => u = .int .i64 (prod (szs v)) ∧ R' = []) := by
  have hlen := hl.len
  have hvl := hw.len
  have hvlen := hv.outer.len
  have hszl := szs_len v
  have hss := hw.sizes hs
  refine FnSpec.enterP Tryz.func75 rfl Tryz.ntmps75 rfl fun w F => ?_
  repeat' first
    | ((with_reducible refine Nx.is_wp ?_); first | refine Nx.wo ?_ | refine Nx.zp (fun hc => ?_) (fun hc => ?_))
    | (refine Nx.zo ?_; first | refine Nx.opr rfl rfl ?_ | refine Nx.callv rfl rfl rfl (by kernel_rfl) rfl (RView_spec _ _ _ _ _ _ _ hl hs hv hw) ?_ | refine Nx.so ?_ | refine Nx.sb (fun bx => ?_) | refine Nx.sa (fun A2 c2 => ?_))
    | ((with_reducible refine Nx.is_at ?_); first | refine Nx.a ?_ | refine Nx.zd ?_ | refine Nx.zs (fun hc => ?_) (fun hc => ?_))
    | ((with_reducible refine Nx.is_mix ?_); first | refine Nx.m ?_ | refine Nx.zm ?_ | refine Nx.zt (fun hc => ?_) (fun hc => ?_))
    | refine Nx.zx ?_ | fail
  rename_i b2
  revert bx; intro b3
  refine Nx.p_loop (σ := Nat) (fun i => [(13, .slice B v.length cv), (14, .int .i64 v.length), (15, .int .i64 (i : Int)), (5, .int .i64 (prod ((szs v).take i)))])
    (fun _ => [F]) (fun i => i ≤ v.length) (fun i => v.length - i) 0 rfl (Nat.zero_le _) ⟨rfl, rfl, rfl, rfl, trivial⟩ (by (exact Ent.auto)) ?_
  intro i hi
  have hi : i ≤ v.length := hi
  have hb := hss.bound (k := i) (by omega)
  by_cases hiv : i < v.length
  case neg =>
    have hie : i = (szs v).length := by omega
    rw [hie, List.take_length] at hb ⊢
    repeat' first
      | ((with_reducible refine Nx.is_wp ?_); first | refine Nx.wo ?_ | refine Nx.zp (fun hc => ?_) (fun hc => ?_))
      | (refine Nx.zo ?_; first | refine Nx.opr rfl rfl ?_ | refine Nx.so ?_ | refine Nx.sb (fun bx => ?_) | refine Nx.sa (fun A2 c2 => ?_))
      | ((with_reducible refine Nx.is_at ?_); first | refine Nx.a ?_ | refine Nx.zd ?_ | refine Nx.zs (fun hc => ?_) (fun hc => ?_))
      | ((with_reducible refine Nx.is_mix ?_); first | refine Nx.m ?_ | refine Nx.zm ?_ | refine Nx.zt (fun hc => ?_) (fun hc => ?_))
      | refine Nx.zx ?_ | fail
    exact Nx.ret_fn rfl [] ⟨rfl, rfl⟩ (by (exact Ent.auto))
  have hrow := hv.at hiv
  have hgrp := hw.grouped (k := i) (by omega)
  have hea := (hw.each i (by omega)).1
  have hsat := szs_at v i hiv
  have hps := prod_succ (szs v) i (by omega)
  have hb2 := hss.bound (k := i + 1) (by omega)
  have hlat := hs.at (k := i) (by omega)
  rw [hsat] at hps
  have hrd : ∀ (W : World) (R : List Res), Rd W I R ((ad B).add (i * 1)) (rowV (v.getD i default)) := fun W R => hv.outer.rd hiv
  generalize v.getD i default = rw' at hrow hgrp hea hrd hps
  obtain ⟨G, cg, g⟩ := rw'
  dsimp only at hrow hgrp hea hps
  replace hrd : ∀ (W : World) (R : List Res), Rd W I R ((ad B).add (i * 1)) (.slice G g.length cg) := hrd
  have hG := Groups_spec G cg g I hrow hgrp (by omega)
  generalize 1 + maxL g (g.length - 1) = y at hG hps
  rw [hps] at hb2
  repeat' first
    | ((with_reducible refine Nx.is_wp ?_); first | refine Nx.wo ?_ | refine Nx.zp (fun hc => ?_) (fun hc => ?_))
    | (refine Nx.zo ?_; first | refine Nx.opr rfl rfl ?_ | refine Nx.indexAddr_nat (A := B) (i := i) (sz := 1) rfl rfl rfl rfl rfl (by omega) (hv.outer.isSome (by omega)) ?_ | refine Nx.load rfl rfl rfl (hrd _ _) ?_ | refine Nx.callv rfl rfl rfl (by kernel_rfl) rfl hG ?_ | refine Nx.so ?_ | refine Nx.sb (fun bx => ?_) | refine Nx.sa (fun A2 c2 => ?_))
    | ((with_reducible refine Nx.is_at ?_); first | refine Nx.a ?_ | refine Nx.zd ?_ | refine Nx.zs (fun hc => ?_) (fun hc => ?_))
    | ((with_reducible refine Nx.is_mix ?_); first | refine Nx.m ?_ | refine Nx.zm ?_ | refine Nx.zt (fun hc => ?_) (fun hc => ?_))
    | refine Nx.zx ?_ | fail
  exact Nx.again (i + 1) hiv (by omega) ⟨rfl, rfl, rfl, by rw [hps]; rfl, trivial⟩ (by (exact Ent.auto))
set_option maxRecDepth 10000 in
set_option maxHeartbeats 4000000 in
theorem RPublish_spec (A B T : Option Addr) (c cv ct : Nat) (l t : List Int) (v : List Row) (I : PH) (hl : Ints I A c l) (hs : Sizes l) (hv : RowsOf I B cv v) (hw : Viewed l v) (ht : Ints I T ct t) (hT : Table l t) :
    FnSpec Tryz.prog 48 [.agg #[.slice A l.length c], .agg #[.slice B v.length cv], .slice T t.length ct] I [] (fun u R' => ∃ A', u = .tuple #[.slice A' (prod (szs v)).toNat (prod (szs v)).toNat, .int .i64 0] ∧
      R' = [Vec 3 1 A' (prod (szs v)).toNat (prod (szs v)).toNat ((sums (pubOf l v) t (prod (szs v)).toNat t.length).map (Value.int .i64))]) := by
  have hpr := hs.bound (k := l.length) (Nat.le_refl _)
  rw [List.take_length] at hpr
  have hzb := (hw.sizes hs).bound (k := (szs v).length) (Nat.le_refl _)
  rw [List.take_length] at hzb
  have htl := hT.len
  have htn := ht.len
  have hP := RPublished_spec A B c cv l v I hl hs hv hw
  rw [show prod (szs v) = (((prod (szs v)).toNat : Nat) : Int) by omega] at hP
  refine FnSpec.enterP Tryz.func48 rfl Tryz.ntmps48 rfl fun w F => ?_
  repeat' first
    | ((with_reducible refine Nx.is_wp ?_); first | refine Nx.wo ?_ | refine Nx.zp (fun hc => ?_) (fun hc => ?_))
    | (refine Nx.zo ?_; first | refine Nx.opr rfl rfl ?_ | refine Nx.callv rfl rfl rfl (by kernel_rfl) rfl (RView_spec _ _ _ _ _ _ _ hl hs hv hw) ?_ | refine Nx.callv rfl rfl rfl (by kernel_rfl) rfl (RCount_spec _ _ _ _ hl hs) ?_ | refine Nx.so ?_ | refine Nx.sb (fun bx => ?_) | refine Nx.sa (fun A2 c2 => ?_))
    | ((with_reducible refine Nx.is_at ?_); first | refine Nx.a ?_ | refine Nx.zd ?_ | refine Nx.zs (fun hc => ?_) (fun hc => ?_))
    | ((with_reducible refine Nx.is_mix ?_); first | refine Nx.m ?_ | refine Nx.zm ?_ | refine Nx.zt (fun hc => ?_) (fun hc => ?_))
    | refine Nx.zx ?_ | fail
  rename_i b2
  revert bx; intro b3
  refine Nx.p_loop (σ := Nat) (fun s => [(2, .slice T t.length ct), (3, .pointer (some ⟨b2, 0, none⟩)), (4, .pointer (some ⟨b3, 0, none⟩)), (25, .slice T t.length ct), (26, .int .i64 t.length), (27, .int .i64 (s : Int))])
    (fun _ => [Blk b3 35 [.slice B v.length cv], Blk b2 27 [.slice A l.length c], F]) (fun s => s ≤ t.length) (fun s => t.length - s) 0 rfl (Nat.zero_le _) ⟨rfl, rfl, rfl, rfl, rfl, rfl, trivial⟩ (by (exact Ent.auto)) ?_
  intro n hn
  have hn : n ≤ t.length := hn
  by_cases hlt : n < t.length
  · have htn := hT.each n hlt
    have htr : ∀ (W : World) (R : List Res), Rd W I R ((ad T).add (n * 1)) (.int .i64 (t.getD n default)) := fun W R => ht.rd hlt
    generalize t.getD n default = y at htn htr
    repeat' first
      | ((with_reducible refine Nx.is_wp ?_); first | refine Nx.wo ?_ | refine Nx.zp (fun hc => ?_) (fun hc => ?_))
      | (refine Nx.zo ?_; first | refine Nx.opr rfl rfl ?_ | refine Nx.indexAddr_nat (A := T) (i := n) (sz := 1) rfl rfl rfl rfl rfl (by omega) (ht.isSome (by omega)) ?_ | refine Nx.load rfl rfl rfl (htr _ _) ?_ | refine Nx.so ?_ | refine Nx.sb (fun bx => ?_) | refine Nx.sa (fun A2 c2 => ?_))
      | ((with_reducible refine Nx.is_at ?_); first | refine Nx.a ?_ | refine Nx.zd ?_ | refine Nx.zs (fun hc => ?_) (fun hc => ?_))
      | ((with_reducible refine Nx.is_mix ?_); first | refine Nx.m ?_ | refine Nx.zm ?_ | refine Nx.zt (fun hc => ?_) (fun hc => ?_))
      | refine Nx.zx ?_ | fail
    exact Nx.again (n + 1) hlt (by omega) ⟨rfl, rfl, rfl, rfl, rfl, rfl, trivial⟩ (by (exact Ent.auto))
  obtain rfl : n = t.length := by omega
  generalize hPn : (prod (szs v)).toNat = P at hzb hP ⊢
  have hP48 : P ≤ 4096 := by omega
  repeat' first
    | ((with_reducible refine Nx.is_wp ?_); first | refine Nx.wo ?_ | refine Nx.zp (fun hc => ?_) (fun hc => ?_))
    | (refine Nx.zo ?_; first | refine Nx.opr rfl rfl ?_ | refine Nx.callv rfl rfl rfl (by kernel_rfl) rfl hP ?_ | refine Nx.makeInts rfl rfl rfl rfl rfl rfl rfl rfl (by omega) (fun bx => ?_) | refine Nx.so ?_ | refine Nx.sb (fun bx => ?_) | refine Nx.sa (fun A2 c2 => ?_))
    | ((with_reducible refine Nx.is_at ?_); first | refine Nx.a ?_ | refine Nx.zd ?_ | refine Nx.zs (fun hc => ?_) (fun hc => ?_))
    | ((with_reducible refine Nx.is_mix ?_); first | refine Nx.m ?_ | refine Nx.zm ?_ | refine Nx.zt (fun hc => ?_) (fun hc => ?_))
    | refine Nx.zx ?_ | fail
  revert bx; intro b11
  refine Nx.p_loop (σ := Nat) (fun s => [(2, .slice T t.length ct), (3, .pointer (some ⟨b2, 0, none⟩)), (4, .pointer (some ⟨b3, 0, none⟩)), (11, .slice (some ⟨b11, 0, none⟩) P P), (43, .int .i64 t.length), (44, .int .i64 (s : Int))])
    (fun s => [Vec 3 1 (some ⟨b11, 0, none⟩) P P ((sums (pubOf l v) t P s).map (Value.int .i64)), Blk b3 35 [.slice B v.length cv], Blk b2 27 [.slice A l.length c], F]) (fun s => s ≤ t.length) (fun s => t.length - s) 0 rfl (Nat.zero_le _) ⟨rfl, rfl, rfl, rfl, rfl, rfl, trivial⟩ (by rw [sums_zero]; (exact Ent.auto)) ?_
  intro n hn
  have hn : n ≤ t.length := hn
  by_cases hlt : n < t.length
  case neg =>
    obtain rfl : n = t.length := by omega
    repeat' first
      | ((with_reducible refine Nx.is_wp ?_); first | refine Nx.wo ?_ | refine Nx.zp (fun hc => ?_) (fun hc => ?_))
      | (refine Nx.zo ?_; first | refine Nx.opr rfl rfl ?_ | refine Nx.so ?_ | refine Nx.sb (fun bx => ?_) | refine Nx.sa (fun A2 c2 => ?_))
      | ((with_reducible refine Nx.is_at ?_); first | refine Nx.a ?_ | refine Nx.zd ?_ | refine Nx.zs (fun hc => ?_) (fun hc => ?_))
      | ((with_reducible refine Nx.is_mix ?_); first | refine Nx.m ?_ | refine Nx.zm ?_ | refine Nx.zt (fun hc => ?_) (fun hc => ?_))
      | refine Nx.zx ?_ | fail
    exact Nx.ret_fn rfl [_] ⟨_, rfl, rfl⟩ (by (exact Ent.auto))
  have hO := Of_spec A B c cv l v n I hl hs hv hw (by omega)
  have hpb := pub_bd hs hw n
  have hsl := sums_len (pubOf l v) t P n
  by_cases hq0 : 0 ≤ pubOf l v n
  case neg =>
    have hsk := sums_skip (t := t) (P := P) (show pubOf l v n = -1 by omega)
    generalize pubOf l v n = y at hO hpb hq0
    repeat' first
      | ((with_reducible refine Nx.is_wp ?_); first | refine Nx.wo ?_ | refine Nx.zp (fun hc => ?_) (fun hc => ?_))
      | (refine Nx.zo ?_; first | refine Nx.opr rfl rfl ?_ | refine Nx.callv rfl rfl rfl (by kernel_rfl) rfl hO ?_ | refine Nx.so ?_ | refine Nx.sb (fun bx => ?_) | refine Nx.sa (fun A2 c2 => ?_))
      | ((with_reducible refine Nx.is_at ?_); first | refine Nx.a ?_ | refine Nx.zd ?_ | refine Nx.zs (fun hc => ?_) (fun hc => ?_))
      | ((with_reducible refine Nx.is_mix ?_); first | refine Nx.m ?_ | refine Nx.zm ?_ | refine Nx.zt (fun hc => ?_) (fun hc => ?_))
      | refine Nx.zx ?_ | fail
    exact Nx.again (n + 1) hlt (by omega) ⟨rfl, rfl, rfl, rfl, rfl, rfl, trivial⟩ (by rw [hsk]; (exact Ent.auto))
  obtain ⟨q, hq⟩ : ∃ q : Nat, pubOf l v n = q := ⟨(pubOf l v n).toNat, by omega⟩
  have hqP : q < P := by omega
  have hsq := sumAt_bd (p := pubOf l v) (k := (q : Int)) hT.each n (by omega)
  have hsa := sums_at (pubOf l v) t P n q hqP
  have hset := sums_set (t := t) (P := P) hq.symm
  have htn := hT.each n hlt
  have htr : ∀ (W : World) (R : List Res), Rd W I R ((ad T).add (n * 1)) (.int .i64 (t.getD n default)) := fun W R => ht.rd hlt
  rw [hq] at hO
  rw [← hsa] at hsq
  generalize t.getD n default = y at htn htr hset
  generalize sums (pubOf l v) t P n = sm at hsl hsq hset
  repeat' first
    | ((with_reducible refine Nx.is_wp ?_); first | refine Nx.wo ?_ | refine Nx.p_drawF (id := 18) rfl [0, 1, 2, 3, 4, 5, 6, 7, 8, 9] [] [10] _ rfl rfl (by kernel_rfl) (by kernel_rfl) rfl (by repeat first | exact PanicOk.fn | refine PanicOk.then_ ?_ | refine PanicOk.inB ?_) (Ent.refl _) ?_ | refine Nx.zp (fun hc => ?_) (fun hc => ?_))
    | (refine Nx.zo ?_; first | refine Nx.opr rfl rfl ?_ | refine Nx.callv rfl rfl rfl (by kernel_rfl) rfl hO ?_ | refine Nx.store_of 0 (Value.int .i64) rfl rfl rfl rfl rfl rfl (by omega) ?_ | refine Nx.so ?_ | refine Nx.sb (fun bx => ?_) | refine Nx.sa (fun A2 c2 => ?_))
    | ((with_reducible refine Nx.is_at ?_); first | refine Nx.a ?_ | refine Nx.zd ?_ | refine Nx.zs (fun hc => ?_) (fun hc => ?_))
    | ((with_reducible refine Nx.is_mix ?_); first | refine Nx.m_quiet rfl rfl rfl rfl rfl (by first | exact QRun.opr rfl | exact QRun.idx (A := some ⟨b11, 0, none⟩) (i := q) (sz := 1) rfl rfl rfl rfl (by omega) rfl | exact QRun.idx (A := T) (i := n) (sz := 1) rfl rfl rfl rfl (by omega) (ht.isSome (by omega)) | exact QRun.load rfl rfl (htr _ _) | exact QRun.load rfl rfl (Rd.vecEl 0 (f := Value.int .i64) (l := sm) (i := q) rfl (by omega))) ?_ | refine Nx.m_quiet_do rfl rfl rfl rfl rfl rfl rfl (by first | exact QRun.opr rfl | exact QRun.idx (A := some ⟨b11, 0, none⟩) (i := q) (sz := 1) rfl rfl rfl rfl (by omega) rfl | exact QRun.idx (A := T) (i := n) (sz := 1) rfl rfl rfl rfl (by omega) (ht.isSome (by omega)) | exact QRun.load rfl rfl (htr _ _) | exact QRun.load rfl rfl (Rd.vecEl 0 (f := Value.int .i64) (l := sm) (i := q) rfl (by omega))) ?_ | refine Nx.m ?_ | refine Nx.zm ?_ | refine Nx.zt (fun hc => ?_) (fun hc => ?_))
    | refine Nx.zx ?_ | fail
  exact Nx.again (n + 1) hlt (by omega) ⟨rfl, rfl, rfl, rfl, rfl, rfl, trivial⟩ (by rw [← hset]; (exact Ent.auto))
end Go.Proofs.YtjnhoemgceghlaaGreat
