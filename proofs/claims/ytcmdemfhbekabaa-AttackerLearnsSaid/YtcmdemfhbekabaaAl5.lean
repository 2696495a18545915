/- Contracts of functions of the given program, and lemmas about plain lists and numbers: what the laws of this seat lean on. -/
import Derived.Laws.MakeOwn
import Derived.Laws.CopyRow
import Derived.Shelf.Bits.Mul64
import Derived.Test.YtcmdemfhbekabaaAl4
namespace Go.Proofs.Ytcmdemfhbekabaa
open Go.Eng Go.Sol
attribute [local irreducible] opK wpList Code.wp Exit.then Exit.inBlock fnPost bodyPost Nx Calls Oper.wp Rd Rds Wr Ent Stars Blk Again Vec FnSpec wpMix QRun Stop Upto wpAt
/-! The problem at the start: what it is -/
abbrev rwR (r : Row) : Res := iR r.1 r.2.1 r.2.2
theorem nil_rwR (n : Nat) {R : List Res} : Ent R (Stars ((List.replicate n ((none, 0, []) : Row)).map rwR) :: R) := by
  induction n with
  | zero => exact Ent.stars_nil _
  | succ n ih =>
    rw [List.replicate_succ']
    rw [List.map_append]
    exact ih.trans ((Ent.vec_nil _ _ _).trans Ent.bundle)
theorem inL_snoc (L : List Eqn) (q : Eqn) (c : Nat) : inL (L ++ [q]) c = inL L c ++ if c ∈ q.1 then [(L.length : Int)] else [] := by
  unfold inL
  rw [List.length_append, List.length_singleton, List.range_succ, List.filter_append, List.map_append]
  congr 1
  · congr 1
    refine List.filter_congr fun i hi => ?_
    have hi := List.mem_range.1 hi
    rw [List.getD_eq_getElem?_getD, List.getD_eq_getElem?_getD, List.getElem?_append_left hi]
  · have e : (L ++ [q]).getD L.length default = q := by rw [List.getD_eq_getElem?_getD, List.getElem?_append_right (Nat.le_refl _)]; simp
    by_cases h : c ∈ q.1
    · rw [if_pos h, List.filter_cons_of_pos (by rw [e]; exact decide_eq_true h)]; rfl
    · rw [if_neg h, List.filter_cons_of_neg (by rw [e]; simpa using h)]; rfl
theorem eqns_len (l : List EqR) : (eqns l).length = l.length := List.length_map _
theorem eqns_snoc {l : List EqR} {k : Nat} (h : k < l.length) : eqns (l.take (k + 1)) = eqns (l.take k) ++ [eqn (l.getD k default)] := by unfold eqns; rw [take_snocQ h, List.map_append]; rfl
theorem mem_eqn {n : Nat} {q : EqR} (hg : GoodE n q) {c : Nat} : c ∈ (eqn q).1 ↔ (c : Int) ∈ q.1.2.2 := by
  unfold eqn
  rw [List.mem_map]
  constructor
  · rintro ⟨x, hx, rfl⟩
    have := (hg.lt x hx).1
    rw [show ((x.toNat : Nat) : Int) = x by omega]; exact hx
  · intro h
    exact ⟨_, h, Int.toNat_natCast c⟩
theorem sumC_zero (n : Nat) : ∀ cs, sumC (List.replicate n 0) cs = 0
  | [] => rfl
  | c :: cs => by
    rw [sumC, sumC_zero n cs]
    rw [List.getD_eq_getElem?_getD, List.getElem?_replicate]
    split <;> rfl
def valsL (l : List EqR) : List Int := l.map (·.2)
def sizesL (l : List EqR) : List Int := l.map fun q => (q.1.2.2.length : Int)
theorem rest_start (n : Nat) (l : List EqR) : restL (eqns l) (List.replicate n 0) = valsL l := by
  unfold restL eqns valsL
  rw [List.map_map]
  refine List.map_congr_left fun q _ => ?_
  show q.2 - sumC _ _ = q.2
  rw [sumC_zero]; omega
theorem open_start {n : Nat} {l : List EqR} (hg : ∀ q ∈ l, GoodE n q) : openL (eqns l) (touch n (eqns l)) = sizesL l := by
  unfold openL sizesL
  rw [show eqns l = l.map eqn from rfl, List.map_map]
  refine List.map_congr_left fun q hq => ?_
  show ((openQ _ (eqn q) : Nat) : Int) = _
  unfold openQ
  rw [List.filter_eq_self.2 fun c hc => ?_]
  · show (((q.1.2.2.map Int.toNat).length : Nat) : Int) = _
    rw [List.length_map]
  · refine decide_eq_true (mem_touch.2 ⟨?_, eqn q, List.mem_map.2 ⟨q, hq, rfl⟩, hc⟩)
    have := (hg q hq).lt _ ((mem_eqn (hg q hq)).1 hc)
    omega
/-- What 'start' leaves. -/
def StartPost (n : Nat) (l : List EqR) (v : Value) (R' : List Res) : Prop :=
  ∃ (p : Pl) (Atd : Option Addr) (ctd : Nat) (Ai : Option Addr) (ci : Nat) (ins : List Row), v = .pointer (some ⟨p.b, 0, none⟩) ∧ p.tv = .slice Atd (touch n (eqns l)).length ctd ∧ p.iv = .slice Ai n ci ∧ ins.length = n ∧ (∀ c, c < n → (ins.getD c default).2.2 = inL (eqns l) c) ∧
    R' = [p.blk n l.length, iR p.Ar p.cr (valsL l), iR p.Ao p.co (sizesL l), iR p.At p.ct (List.replicate n 0), Vec 25 1 Ai n ci (ins.map rowV), Stars (ins.map rwR), iR Atd ctd ((touch n (eqns l)).map Int.ofNat)]
theorem vals_snoc {l : List EqR} {k : Nat} (h : k < l.length) : valsL (l.take (k + 1)) = valsL (l.take k) ++ [(l.getD k default).2] := by unfold valsL; rw [take_snocQ h, List.map_append]; rfl
theorem sizes_snoc {l : List EqR} {k : Nat} (h : k < l.length) : sizesL (l.take (k + 1)) = sizesL (l.take k) ++ [((l.getD k default).1.2.2.length : Int)] := by unfold sizesL; rw [take_snocQ h, List.map_append]; rfl
theorem vals_len (l : List EqR) : (valsL l).length = l.length := List.length_map _
theorem sizes_len (l : List EqR) : (sizesL l).length = l.length := List.length_map _
set_option maxRecDepth 10000 in
set_option maxHeartbeats 8000000 in
theorem start_tail (w : World) (F : Res) (A : Option Addr) (c : Nat) (l : List EqR) (n : Nat) (I : PH) (hl : Eqs I A c l) (hg : ∀ q ∈ l, GoodE n q) (hll : l.length ≤ 100000) (At : Option Addr) (ct bi bt b : Nat) :
    Nx ⟨Try.prog, 75, w⟩ [(0, .int .i64 (n : Int)), (1, .slice A l.length c), (5, .pointer (some ⟨b, 0, none⟩))] I [Blk b PT [.slice At (touch n (eqns l)).length ct, .slice (some ⟨bi, 0, none⟩) n n, .slice none 0 0, .slice none 0 0, .slice (some ⟨bt, 0, none⟩) n n], iR At ct ((touch n (eqns l)).map Int.ofNat), Vec 25 1 (some ⟨bi, 0, none⟩) n n (List.replicate n (.slice none 0 0)), Vec 3 1 (some ⟨bt, 0, none⟩) n n ((List.replicate n (0 : Int)).map (Value.int .i64)), F]
      (Code.wp Try.prog (cr (cr (bodyOf Try.f68))) (fnPost Try.prog Try.f68 I F w (StartPost n l))) := by
  have hlen := hl.len
  repeat' first
    | ((with_reducible refine Nx.is_wp ?_); first | refine Nx.wo ?_ | refine Nx.zp (fun hc => ?_) (fun hc => ?_))
    | (refine Nx.zo ?_; first | refine Nx.opr rfl rfl ?_ | refine Nx.so ?_ | refine Nx.sb (fun bx => ?_) | refine Nx.sa (fun A2 c2 => ?_))
    | ((with_reducible refine Nx.is_at ?_); first | refine Nx.a ?_ | refine Nx.zd ?_ | refine Nx.zs (fun hc => ?_) (fun hc => ?_))
    | ((with_reducible refine Nx.is_mix ?_); first | refine Nx.m ?_ | refine Nx.zm ?_ | refine Nx.zt (fun hc => ?_) (fun hc => ?_))
    | refine Nx.zx ?_ | fail
  refine Nx.p_loop (σ := Nat × Option Addr × Nat × Option Addr × Nat × List Row) (fun s => [(0, .int .i64 (n : Int)), (1, .slice A l.length c), (5, .pointer (some ⟨b, 0, none⟩)), (19, .slice A l.length c), (20, .int .i64 l.length), (21, .int .i64 (s.1 : Int))])
    (fun s => [Blk b PT [.slice At (touch n (eqns l)).length ct, .slice (some ⟨bi, 0, none⟩) n n, .slice s.2.1 (valsL (l.take s.1)).length s.2.2.1, .slice s.2.2.2.1 (sizesL (l.take s.1)).length s.2.2.2.2.1, .slice (some ⟨bt, 0, none⟩) n n], iR s.2.1 s.2.2.1 (valsL (l.take s.1)), iR s.2.2.2.1 s.2.2.2.2.1 (sizesL (l.take s.1)), Vec 25 1 (some ⟨bi, 0, none⟩) n n (s.2.2.2.2.2.map rowV), Stars (s.2.2.2.2.2.map rwR), iR At ct ((touch n (eqns l)).map Int.ofNat), Vec 3 1 (some ⟨bt, 0, none⟩) n n ((List.replicate n (0 : Int)).map (Value.int .i64)), F])
    (fun s => s.1 ≤ l.length ∧ s.2.2.2.2.2.length = n ∧ ∀ x, x < n → (s.2.2.2.2.2.getD x default).2.2 = inL (eqns (l.take s.1)) x) (fun s => l.length - s.1) (0, none, 0, none, 0, List.replicate n (none, 0, [])) rfl ⟨Nat.zero_le _, by simp, fun x hx => by rw [List.getD_eq_getElem?_getD, List.getElem?_replicate, if_pos hx]; rfl⟩ ⟨rfl, rfl, rfl, rfl, rfl, rfl, trivial⟩ ?_ ?_
  · have e0 : (List.replicate n ((none, 0, []) : Row)).map rowV = List.replicate n (.slice none 0 0) := by rw [List.map_replicate]; rfl
    dsimp only
    rw [e0]
    exact (nil_rwR n).trans ((Ent.vec_nil _ _ _).trans ((Ent.vec_nil _ _ _).trans (by (exact Ent.auto))))
  rintro ⟨k, Ar, crr, Ao, coo, ins⟩ ⟨hk, hil, hins⟩
  dsimp only at hk hil hins ⊢
  by_cases hlt : k < l.length
  case neg =>
    obtain rfl : k = l.length := by omega
    rw [List.take_length] at hins ⊢
    repeat' first
      | ((with_reducible refine Nx.is_wp ?_); first | refine Nx.wo ?_ | refine Nx.zp (fun hc => ?_) (fun hc => ?_))
      | (refine Nx.zo ?_; first | refine Nx.opr rfl rfl ?_ | refine Nx.so ?_ | refine Nx.sb (fun bx => ?_) | refine Nx.sa (fun A2 c2 => ?_))
      | ((with_reducible refine Nx.is_at ?_); first | refine Nx.a ?_ | refine Nx.zd ?_ | refine Nx.zs (fun hc => ?_) (fun hc => ?_))
      | ((with_reducible refine Nx.is_mix ?_); first | refine Nx.m ?_ | refine Nx.zm ?_ | refine Nx.zt (fun hc => ?_) (fun hc => ?_))
      | refine Nx.zx ?_ | fail
    refine Nx.ret_fn rfl [_, _, _, _, _, _, _] ⟨⟨b, _, _, Ar, crr, Ao, coo, some ⟨bt, 0, none⟩, n⟩, At, ct, some ⟨bi, 0, none⟩, n, ins, rfl, rfl, rfl, hil, hins, rfl⟩ ?_
    unfold Pl.blk iR
    rw [vals_len, sizes_len, List.length_replicate]
    (exact Ent.auto)
  have hin := hl.inner _ (getD_memQ hlt)
  have hgk := hg _ (getD_memQ hlt)
  have hvs := vals_snoc hlt
  have hss := sizes_snoc hlt
  have hes := eqns_snoc hlt
  have hrds : ∀ (W : World) (R : List Res), Rds W I R ((ad A).add (k * 2)) (eqC (l.getD k default)) := fun W R => hl.outer.rds hlt
  generalize l.getD k default = q at *
  obtain ⟨⟨Ax, cx, ix⟩, z⟩ := q
  dsimp only at hin hvs hss
  replace hrds : ∀ (W : World) (R : List Res), Rds W I R ((ad A).add (k * 2)) [.slice Ax ix.length cx, .int .i64 z] := hrds
  have hixl := hin.len
  repeat' first
    | ((with_reducible refine Nx.is_wp ?_); first | refine Nx.wo ?_ | refine Nx.zp (fun hc => ?_) (fun hc => ?_))
    | (refine Nx.zo ?_; first | refine Nx.opr rfl rfl ?_ | refine Nx.indexAddr_nat rfl rfl rfl rfl rfl (by omega) (hl.outer.isSome (by omega) (by omega)) ?_ | refine Nx.loads rfl rfl rfl rfl (hrds _ _) rfl ?_ | refine Nx.so ?_ | refine Nx.sb (fun bx => ?_) | refine Nx.sa (fun A2 c2 => ?_))
    | ((with_reducible refine Nx.is_at ?_); first | refine Nx.a ?_ | refine Nx.zd ?_ | refine Nx.zs (fun hc => ?_) (fun hc => ?_))
    | ((with_reducible refine Nx.is_mix ?_); first | refine Nx.m ?_ | refine Nx.zm ?_ | refine Nx.zt (fun hc => ?_) (fun hc => ?_))
    | refine Nx.zx ?_ | fail
  revert bx; intro b7
  have hvl : (valsL (l.take k)).length ≤ 1000000 := by rw [vals_len, List.length_take]; omega
  have hsl : (sizesL (l.take k)).length ≤ 1000000 := by rw [sizes_len, List.length_take]; omega
  refine Nx.weak (e' := [(0, .int .i64 (n : Int)), (1, .slice A l.length c), (5, .pointer (some ⟨b, 0, none⟩)), (6, .int .i64 (k : Int)), (7, .pointer (some ⟨b7, 0, none⟩)), (19, .slice A l.length c), (20, .int .i64 (l.length : Int)), (21, .int .i64 (k : Int))]) (by exact ⟨rfl, rfl, rfl, rfl, rfl, rfl, rfl, rfl, trivial⟩)
    (R' := Blk b PT [.slice At (touch n (eqns l)).length ct, .slice (some ⟨bi, 0, none⟩) n n, .slice Ar (valsL (l.take k)).length crr, .slice Ao (sizesL (l.take k)).length coo, .slice (some ⟨bt, 0, none⟩) n n] :: Blk b7 105 [.slice Ax ix.length cx, .int .i64 z] :: iR Ar crr (valsL (l.take k)) :: iR Ao coo (sizesL (l.take k)) :: [Vec 25 1 (some ⟨bi, 0, none⟩) n n (ins.map rowV), Stars (ins.map rwR), iR At ct ((touch n (eqns l)).map Int.ofNat), Vec 3 1 (some ⟨bt, 0, none⟩) n n ((List.replicate n (0 : Int)).map (Value.int .i64)), F]) (by (exact Ent.auto))
    (start_r5 w _ _ (by repeat first | exact PanicOk.fn | refine PanicOk.then_ ?_ | refine PanicOk.inB ?_) [Vec 25 1 (some ⟨bi, 0, none⟩) n n (ins.map rowV), Stars (ins.map rwR), iR At ct ((touch n (eqns l)).map Int.ofNat), Vec 3 1 (some ⟨bt, 0, none⟩) n n ((List.replicate n (0 : Int)).map (Value.int .i64)), F] (.int .i64 (n : Int)) (.slice A l.length c) (.slice A l.length c) (.slice At (touch n (eqns l)).length ct) (.slice (some ⟨bi, 0, none⟩) n n) (.slice (some ⟨bt, 0, none⟩) n n) b b7 l.length k k Ar Ao Ax crr coo cx (valsL (l.take k)) (sizesL (l.take k)) ix z I hvl hsl fun A7 c7 A8 c8 => ?_)
  rw [← hvs, ← hss]
  repeat' first
    | ((with_reducible refine Nx.is_wp ?_); first | refine Nx.wo ?_ | refine Nx.zp (fun hc => ?_) (fun hc => ?_))
    | (refine Nx.zo ?_; first | refine Nx.opr rfl rfl ?_ | refine Nx.so ?_ | refine Nx.sb (fun bx => ?_) | refine Nx.sa (fun A2 c2 => ?_))
    | ((with_reducible refine Nx.is_at ?_); first | refine Nx.a ?_ | refine Nx.zd ?_ | refine Nx.zs (fun hc => ?_) (fun hc => ?_))
    | ((with_reducible refine Nx.is_mix ?_); first | refine Nx.m ?_ | refine Nx.zm ?_ | refine Nx.zt (fun hc => ?_) (fun hc => ?_))
    | refine Nx.zx ?_ | fail
  refine Nx.p_loop (σ := Nat × List Row) (fun s => [(0, .int .i64 (n : Int)), (1, .slice A l.length c), (5, .pointer (some ⟨b, 0, none⟩)), (6, .int .i64 (k : Int)), (19, .slice A l.length c), (20, .int .i64 l.length), (21, .int .i64 (k : Int)), (50, .slice Ax ix.length cx), (51, .int .i64 ix.length), (52, .int .i64 (s.1 : Int))])
    (fun s => [Blk b PT [.slice At (touch n (eqns l)).length ct, .slice (some ⟨bi, 0, none⟩) n n, .slice A7 (valsL (l.take (k + 1))).length c7, .slice A8 (sizesL (l.take (k + 1))).length c8, .slice (some ⟨bt, 0, none⟩) n n], iR A7 c7 (valsL (l.take (k + 1))), iR A8 c8 (sizesL (l.take (k + 1))), Vec 25 1 (some ⟨bi, 0, none⟩) n n (s.2.map rowV), Stars (s.2.map rwR), iR At ct ((touch n (eqns l)).map Int.ofNat), Vec 3 1 (some ⟨bt, 0, none⟩) n n ((List.replicate n (0 : Int)).map (Value.int .i64)), F])
    (fun s => s.1 ≤ ix.length ∧ s.2.length = n ∧ ∀ x, x < n → (s.2.getD x default).2.2 = inL (eqns (l.take k)) x ++ if (x : Int) ∈ ix.take s.1 then [(k : Int)] else []) (fun s => ix.length - s.1) (0, ins) rfl ⟨Nat.zero_le _, hil, fun x hx => by rw [hins x hx]; simp⟩ ⟨rfl, rfl, rfl, rfl, rfl, rfl, rfl, rfl, rfl, rfl, trivial⟩ (by (exact Ent.auto)) ?_
  rintro ⟨j, o⟩ ⟨hj, hol, ho⟩
  dsimp only at hj hol ho ⊢
  by_cases hjl : j < ix.length
  case neg =>
    obtain rfl : j = ix.length := by omega
    repeat' first
      | ((with_reducible refine Nx.is_wp ?_); first | refine Nx.wo ?_ | refine Nx.zp (fun hc => ?_) (fun hc => ?_))
      | (refine Nx.zo ?_; first | refine Nx.opr rfl rfl ?_ | refine Nx.so ?_ | refine Nx.sb (fun bx => ?_) | refine Nx.sa (fun A2 c2 => ?_))
      | ((with_reducible refine Nx.is_at ?_); first | refine Nx.a ?_ | refine Nx.zd ?_ | refine Nx.zs (fun hc => ?_) (fun hc => ?_))
      | ((with_reducible refine Nx.is_mix ?_); first | refine Nx.m ?_ | refine Nx.zm ?_ | refine Nx.zt (fun hc => ?_) (fun hc => ?_))
      | refine Nx.zx ?_ | fail
    refine Nx.again (k + 1, A7, c7, A8, c8, o) ⟨hlt, hol, fun x hx => ?_⟩ (by dsimp only; omega) ⟨rfl, rfl, rfl, rfl, rfl, rfl, trivial⟩ (by (exact Ent.auto))
    dsimp only
    rw [ho x hx, hes, inL_snoc, List.take_length, eqns_len, List.length_take, Nat.min_eq_left (by omega)]
    congr 1
    by_cases hm : (x : Int) ∈ ix
    · rw [if_pos hm, if_pos ((mem_eqn hgk).2 hm)]
    · rw [if_neg hm, if_neg fun h => hm ((mem_eqn hgk).1 h)]
  have hixj := hgk.lt (ix.getD j default) (by rw [List.getD_eq_getElem?_getD, List.getElem?_eq_getElem hjl]; exact List.getElem_mem _)
  obtain ⟨y, hy⟩ : ∃ y : Nat, ix.getD j default = (y : Int) := ⟨(ix.getD j default).toNat, by omega⟩
  have hyn : y < n := by omega
  have hixr : ∀ (W : World) (R : List Res), Rd W I R ((ad Ax).add (j * 1)) (.int .i64 (y : Int)) := fun W R => by rw [← hy]; exact hin.rd hjl
  have hoy := ho y hyn
  have hget : (o.map rwR)[y]? = some (rwR (o.getD y default)) := by
    rw [List.getElem?_map, List.getElem?_eq_getElem (by omega), List.getD_eq_getElem?_getD, List.getElem?_eq_getElem (by omega)]; rfl
  have hrv : ∀ (W : World) (R : List Res), Rd W I (Vec 25 1 (some ⟨bi, 0, none⟩) n n (o.map rowV) :: R) ((ad (some ⟨bi, 0, none⟩)).add (y * 1)) (rowV (o.getD y default)) := fun W R => Rd.vecEl 0 (f := rowV) (l := o) (i := y) rfl (by omega)
  have hyj : (y : Int) ∉ ix.take j := fun hm => by
    obtain ⟨a, ha, he⟩ := List.mem_iff_getElem.1 hm
    rw [List.length_take] at ha
    rw [List.getElem_take] at he
    have hlt2 := (List.pairwise_iff_getElem.1 hgk.asc) a j (by dsimp only; omega) hjl (by omega)
    dsimp only at hlt2
    rw [List.getD_eq_getElem?_getD, List.getElem?_eq_getElem hjl] at hy
    have hy : ix[j] = (y : Int) := hy
    omega
  rw [if_neg hyj, List.append_nil] at hoy
  have hrow9 := inL_len (eqns (l.take k)) y
  rw [← hoy, eqns_len, List.length_take] at hrow9
  refine Nx.ent (R' := [Stars (o.map rwR), Vec 25 1 (some ⟨bi, 0, none⟩) n n (o.map rowV), Blk b PT [.slice At (touch n (eqns l)).length ct, .slice (some ⟨bi, 0, none⟩) n n, .slice A7 (valsL (l.take (k + 1))).length c7, .slice A8 (sizesL (l.take (k + 1))).length c8, .slice (some ⟨bt, 0, none⟩) n n], iR A7 c7 (valsL (l.take (k + 1))), iR A8 c8 (sizesL (l.take (k + 1))), iR At ct ((touch n (eqns l)).map Int.ofNat), Vec 3 1 (some ⟨bt, 0, none⟩) n n ((List.replicate n (0 : Int)).map (Value.int .i64)), F]) (by (exact Ent.auto)) ?_
  refine Nx.ent (Ent.takeOut y hget) ?_
  generalize hrow' : o.getD y default = rw' at hoy hget hrv hrow9
  obtain ⟨Ay, cy, row⟩ := rw'
  dsimp only at hoy hrow9
  replace hrv : ∀ (W : World) (R : List Res), Rd W I (Vec 25 1 (some ⟨bi, 0, none⟩) n n (o.map rowV) :: R) ((ad (some ⟨bi, 0, none⟩)).add (y * 1)) (.slice Ay row.length cy) := hrv
  refine Nx.ent (R' := [Vec 3 1 Ay row.length cy (row.map (Value.int .i64)), Vec 25 1 (some ⟨bi, 0, none⟩) n n (o.map rowV), Stars ((o.map rwR).eraseIdx y), Blk b PT [.slice At (touch n (eqns l)).length ct, .slice (some ⟨bi, 0, none⟩) n n, .slice A7 (valsL (l.take (k + 1))).length c7, .slice A8 (sizesL (l.take (k + 1))).length c8, .slice (some ⟨bt, 0, none⟩) n n], iR A7 c7 (valsL (l.take (k + 1))), iR A8 c8 (sizesL (l.take (k + 1))), iR At ct ((touch n (eqns l)).map Int.ofNat), Vec 3 1 (some ⟨bt, 0, none⟩) n n ((List.replicate n (0 : Int)).map (Value.int .i64)), F]) (by unfold rwR iR; (exact Ent.auto)) ?_
  repeat' first
    | ((with_reducible refine Nx.is_wp ?_); first | refine Nx.wo ?_ | refine Nx.p_drawF (id := 9) rfl [0, 1, 2, 3, 4, 5, 6, 7, 8, 9, 10, 11, 12, 13, 14, 15] [13, 14] [16] _ rfl rfl (by kernel_rfl) (by kernel_rfl) rfl (by repeat first | exact PanicOk.fn | refine PanicOk.then_ ?_ | refine PanicOk.inB ?_) (Ent.eraseK 0 _) ?_ | refine Nx.zp (fun hc => ?_) (fun hc => ?_))
    | (refine Nx.zo ?_; first | refine Nx.opr rfl rfl ?_ | refine Nx.indexAddr_nat rfl rfl rfl rfl rfl (by omega) (hin.isSome (by omega)) ?_ | refine Nx.load rfl rfl rfl (hixr _ _) ?_ | refine Nx.store_of 1 rowV (z := (A2, c2, row ++ [(k : Int)])) rfl (by unfold rowV; dsimp only; rw [List.length_append]; rfl) rfl rfl rfl rfl (by omega) ?_ | refine Nx.so ?_ | refine Nx.sb (fun bx => ?_) | refine Nx.sa (fun A2 c2 => ?_))
    | ((with_reducible refine Nx.is_at ?_); first | refine Nx.a ?_ | refine Nx.zd ?_ | refine Nx.zs (fun hc => ?_) (fun hc => ?_))
    | ((with_reducible refine Nx.is_mix ?_); first | refine Nx.m_quiet rfl rfl rfl rfl rfl (by first | exact QRun.opr rfl | exact QRun.idx rfl rfl rfl rfl (by omega) rfl | exact QRun.load rfl rfl (hrv _ _)) ?_ | refine Nx.m_quiet_do rfl rfl rfl rfl rfl rfl rfl (by first | exact QRun.opr rfl | exact QRun.idx rfl rfl rfl rfl (by omega) rfl | exact QRun.load rfl rfl (hrv _ _)) ?_ | refine Nx.m ?_ | refine Nx.zm ?_ | refine Nx.zt (fun hc => ?_) (fun hc => ?_))
    | refine Nx.zx ?_ | fail
  refine Nx.again (j + 1, o.set y (A2, c2, row ++ [(k : Int)])) ⟨hjl, by dsimp only; rw [List.length_set]; exact hol, fun x hx => ?_⟩ (by dsimp only; omega) ⟨rfl, rfl, rfl, rfl, rfl, rfl, rfl, rfl, rfl, rfl, trivial⟩ ?_
  · dsimp only
    rw [take_snocJ hjl, hy]
    by_cases hxy : x = y
    · subst hxy
      rw [List.getD_eq_getElem?_getD, List.getElem?_set_self (by omega), if_pos (by simp), ← hoy]
      rfl
    · rw [List.getD_eq_getElem?_getD, List.getElem?_set_ne (Ne.symm hxy), ← List.getD_eq_getElem?_getD, ho x hx]
      congr 1
      have e : ((x : Int) ∈ ix.take j ++ [(y : Int)]) ↔ (x : Int) ∈ ix.take j := by
        rw [List.mem_append, List.mem_singleton]
        exact ⟨fun h => h.resolve_right (by omega), .inl⟩
      by_cases hm : (x : Int) ∈ ix.take j
      · rw [if_pos hm, if_pos (e.2 hm)]
      · rw [if_neg hm, if_neg fun h => hm (e.1 h)]
  · dsimp only
    have hS : (o.set y (A2, c2, row ++ [(k : Int)])).map rwR = (o.map rwR).set y (rwR (A2, c2, row ++ [(k : Int)])) := List.map_set
    rw [hS]
    have hput := Ent.putIn y (B := o.map rwR) (R := [Blk b PT [.slice At (touch n (eqns l)).length ct, .slice (some ⟨bi, 0, none⟩) n n, .slice A7 (valsL (l.take (k + 1))).length c7, .slice A8 (sizesL (l.take (k + 1))).length c8, .slice (some ⟨bt, 0, none⟩) n n], iR A7 c7 (valsL (l.take (k + 1))), iR A8 c8 (sizesL (l.take (k + 1))), Vec 25 1 (some ⟨bi, 0, none⟩) n n ((o.set y (A2, c2, row ++ [(k : Int)])).map rowV), iR At ct ((touch n (eqns l)).map Int.ofNat), Vec 3 1 (some ⟨bt, 0, none⟩) n n ((List.replicate n (0 : Int)).map (Value.int .i64)), F]) (r := rwR (A2, c2, row ++ [(k : Int)])) (by rw [List.length_map]; omega)
    refine Ent.trans ?_ (hput.trans (by (exact Ent.auto)))
    unfold rwR iR
    dsimp only
    rw [List.length_append, List.map_append]
    (exact Ent.auto)
set_option maxRecDepth 10000 in
set_option maxHeartbeats 8000000 in
theorem start_spec (A : Option Addr) (c : Nat) (l : List EqR) (n : Nat) (I : PH) (hl : Eqs I A c l) (hg : ∀ q ∈ l, GoodE n q) (hn : n ≤ 4096) (hll : l.length ≤ 100000) (h9 : (allC l).length ≤ 1000000) :
    FnSpec Try.prog 68 [.int .i64 (n : Int), .slice A l.length c] I [] (StartPost n l) := by
  refine FnSpec.enterP Try.func68 rfl Try.ntmps68 rfl fun w F => ?_
  repeat' first
    | ((with_reducible refine Nx.is_wp ?_); first | refine Nx.wo ?_ | refine Nx.zp (fun hc => ?_) (fun hc => ?_))
    | (refine Nx.zo ?_; first | refine Nx.opr rfl rfl ?_ | refine Nx.so ?_ | refine Nx.sb (fun bx => ?_) | refine Nx.sa (fun A2 c2 => ?_))
    | ((with_reducible refine Nx.is_at ?_); first | refine Nx.a ?_ | refine Nx.zd ?_ | refine Nx.zs (fun hc => ?_) (fun hc => ?_))
    | ((with_reducible refine Nx.is_mix ?_); first | refine Nx.m ?_ | refine Nx.zm ?_ | refine Nx.zt (fun hc => ?_) (fun hc => ?_))
    | refine Nx.zx ?_ | fail
  exact Nx.weak (by exact ⟨rfl, rfl, trivial⟩) (by (exact Ent.auto)) (start_r1 w _ _ (by repeat first | exact PanicOk.fn | refine PanicOk.then_ ?_ | refine PanicOk.inB ?_) F A c l n I hl hg hn h9 fun At ct bi bt b => start_tail w F A c l n I hl hg hll At ct bi bt b)
end Go.Proofs.Ytcmdemfhbekabaa
/- Contracts of functions of the given program, and lemmas about plain lists and numbers: what the laws of this seat lean on. -/
namespace Go.Proofs.Ytcmdemfhbekabaa
open Go.Eng Go.Sol
attribute [local irreducible] opK wpList Code.wp Exit.then Exit.inBlock fnPost bodyPost Nx Calls Oper.wp Rd Rds Wr Ent Stars Blk Again Vec FnSpec wpMix QRun Stop Upto wpAt
theorem unstopN {C : Cx} {e : Env} {I : PH} {R : List Res} {K : Act → World → Prop} (h : Nx C e I R K) : Nx C e I R (Stop K) := by unfold Stop; exact h
/-! The problem is given up, but for what is left of the equations and the table -/
theorem started {C : Cx} {e : Env} {I : PH} {R RR : List Res} {K : Act → World → Prop} {p : Pl} {Atd Ai : Option Addr} {ctd ci n : Nat} {ins : List Row} {L : List Eqn} {td : List Nat} (hiv : p.iv = .slice Ai n ci) (hil : ins.length = n) (hins : ∀ c, c < n → (ins.getD c default).2.2 = inL L c)
    (hR : Ent R (Vec 25 1 Ai n ci (ins.map rowV) :: Stars (ins.map rwR) :: iR Atd ctd (td.map Int.ofNat) :: RR)) (h : ∀ I', PH.le I I' → InI I' p n L → Ints I' Atd ctd (td.map Int.ofNat) → Nx C e I' RR K) : Nx C e I R K := by
  refine Nx.ent hR ?_
  refine Nx.freezeAt 0 rfl fun I1 m1 hI1 hm1 h1 => ?_
  refine Nx.freezeAt 0 rfl fun I2 m2 hI2 hm2 h2 => ?_
  refine Nx.freezeAt 0 rfl fun I3 m3 hI3 hm3 h3 => ?_
  subst hil
  refine h I3 ((hI1.trans hI2).trans hI3) ⟨Ai, ci, ins, hiv, rfl, Vec.sliceOf ((hm1.trans hI2).trans hI3) h1, fun x hx => ?_, hins⟩ (Vec.sliceOf hm3 h3)
  obtain ⟨k, hk, rfl⟩ := List.mem_iff_getElem.1 hx
  obtain ⟨m', hle, hr⟩ := Stars.get k h2 (r := rwR ins[k]) (by rw [nthL_eq, List.getElem?_map, List.getElem?_eq_getElem hk]; rfl)
  exact Vec.sliceOf (t := 3) (hle.trans (hm2.trans hI3)) hr
/-! The functions that are shown the solutions -/
abbrev someT (bo : Nat) (s : Option Addr × Nat × List Row) : Res := Stars [Blk bo 33 [.slice s.1 s.2.2.length s.2.1], Vec 25 1 s.1 s.2.2.length s.2.1 (s.2.2.map rowV), Stars (s.2.2.map rwR)]
def someP (s : Option Addr × Nat × List Row) : List (List Int) := s.2.2.map (·.2.2)
def someF (most : Int) (p : List (List Int)) (tab : List Int) : List (List Int) × Bool := (p ++ [tab], decide ((p.length : Int) + 1 < most))
set_option maxRecDepth 10000 in
set_option maxHeartbeats 4000000 in
theorem someF_spec (bo bm : Nat) (most : Int) (hm : most ≤ 1000000) (I : PH) (n : Nat) (hb : ∀ (W : World) (R : List Res), Rd W I R ⟨bm, 0, none⟩ (.int .i64 most)) :
    Found 73 [.pointer (some ⟨bo, 0, none⟩), .pointer (some ⟨bm, 0, none⟩)] I n (someT bo) someP (fun p => (p.length : Int) < most) (someF most) := by
  refine ⟨by kernel_rfl, fun s A c tab htl hok => ?_⟩
  obtain ⟨A1, c1, o⟩ := s
  have hol : (o.length : Int) < most := by unfold someP at hok; rw [List.length_map] at hok; exact hok
  have e1 : someF most (someP (A1, c1, o)) tab = (someP (A1, c1, o) ++ [tab], decide ((o.length : Int) + 1 < most)) := by unfold someF someP; rw [List.length_map]
  rw [e1]
  refine FnSpec.enterP Try.func73 rfl Try.ntmps73 rfl fun w F => ?_
  refine Nx.ent (R' := [Blk bo 33 [.slice A1 o.length c1], Vec 25 1 A1 o.length c1 (o.map rowV), Stars (o.map rwR), iR A c tab, F]) (Ent.unstars.trans (by (exact Ent.auto))) ?_
  repeat' first
    | ((with_reducible refine Nx.is_wp ?_); first | refine Nx.wo ?_ | refine Nx.zp (fun hc => ?_) (fun hc => ?_))
    | (refine Nx.zo ?_; first | refine Nx.opr rfl rfl ?_ | refine Nx.load rfl rfl rfl (hb _ _) ?_ | refine Nx.so ?_ | refine Nx.sb (fun bx => ?_) | refine Nx.sa (fun A2 c2 => ?_))
    | ((with_reducible refine Nx.is_at ?_); first | refine Nx.a ?_ | refine Nx.zd ?_ | refine Nx.zs (fun hc => ?_) (fun hc => ?_))
    | ((with_reducible refine Nx.is_mix ?_); first | refine Nx.m ?_ | refine Nx.zm ?_ | refine Nx.zt (fun hc => ?_) (fun hc => ?_))
    | refine Nx.zx ?_ | fail
  refine Nx.ret_fn rfl [someT bo (A2, c2, o ++ [(A, c, tab)])] ⟨congrArg Value.bool (decide_eq_decide.2 (by omega)), (A2, c2, o ++ [(A, c, tab)]), by unfold someP; simp, fun h => ?_, rfl⟩ ?_
  · have h := of_decide_eq_true h
    unfold someP
    simp only [List.length_map, List.length_append, List.length_singleton]
    omega
  · unfold someT
    dsimp only
    rw [List.length_append, List.map_append, List.map_append]
    exact Ent.trans (R' := iR A c tab :: Stars (o.map rwR) :: [Blk bo 33 [.slice A2 (o.length + 1) c2], Vec 25 1 A2 (o.length + 1) c2 (o.map rowV ++ [.slice A tab.length c]), F]) (by (exact Ent.auto)) (Ent.bundle.trans (Ent.trans (R' := [Blk bo 33 [.slice A2 (o.length + 1) c2], Vec 25 1 A2 (o.length + 1) c2 (o.map rowV ++ [.slice A tab.length c]), Stars (o.map rwR ++ [iR A c tab])] ++ [F]) (by (exact Ent.auto)) Ent.stars))
theorem someF_take (most : Nat) : ∀ (L p : List (List Int)), p.length < most → (foldStop (someF most) p L).1 = p ++ L.take (most - p.length)
  | [], p, h => by simp [foldStop]
  | x :: L, p, h => by
    unfold foldStop
    obtain ⟨m, hm⟩ : ∃ m, most - p.length = m + 1 := ⟨most - p.length - 1, by omega⟩
    rw [hm, List.take_succ_cons]
    by_cases hlt : p.length + 1 < most
    · rw [if_pos (show (someF most p x).2 = true from decide_eq_true (by omega))]
      show (foldStop (someF most) (p ++ [x]) L).1 = _
      rw [someF_take most L (p ++ [x]) (by simpa using hlt), List.append_assoc, List.length_append, List.length_singleton, show most - (p.length + 1) = m by omega]
      rfl
    · rw [if_neg (show ¬(someF most p x).2 = true from by unfold someF; simp; omega), show m = 0 by omega]
      rfl
/-- All solutions. -/
def solsOf (n : Nat) (L : List Eqn) : List (List Int) := enum 1000000 L false (touch n L) (List.replicate n 0)
theorem toNat_asc {xs : List Int} (h : xs.Pairwise (· < ·)) (h0 : ∀ x ∈ xs, 0 ≤ x) : (xs.map Int.toNat).Pairwise (· < ·) := by
  rw [List.pairwise_map]
  refine List.Pairwise.imp_of_mem (fun ha hb hab => ?_) h
  have := h0 _ ha; have := h0 _ hb
  omega
theorem eqn_nd {n : Nat} {q : EqR} (hg : GoodE n q) : (eqn q).1.Nodup := (toNat_asc hg.asc fun x hx => (hg.lt x hx).1).imp fun h => Nat.ne_of_lt h
theorem sane_eqns {n : Nat} {l : List EqR} (hg : ∀ q ∈ l, GoodE n q) (hll : l.length ≤ 100000) (h9 : (allC l).length ≤ 100000) : Sane (eqns l) := by
  refine ⟨fun q hq => ?_, by rw [eqns_len]; exact hll, fun q hq => ?_⟩
  · obtain ⟨x, hx, rfl⟩ := List.mem_map.1 hq
    exact eqn_nd (hg x hx)
  · obtain ⟨x, hx, rfl⟩ := List.mem_map.1 hq
    obtain ⟨k, hk, rfl⟩ := List.mem_iff_getElem.1 hx
    have := allC_le1 hk
    rw [show l.getD k default = l[k] by rw [List.getD_eq_getElem?_getD, List.getElem?_eq_getElem hk]; rfl] at this
    refine ⟨(hg _ hx).val.1, (hg _ hx).val.2, ?_⟩
    show (l[k].1.2.2.map Int.toNat).length ≤ _
    rw [List.length_map]; omega
theorem zeros_at (n c : Nat) : (List.replicate n (0 : Int)).getD c 0 = 0 := by
  rw [List.getD_eq_getElem?_getD, List.getElem?_replicate]; split <;> rfl
theorem inv_start {n : Nat} {l : List EqR} (hg : ∀ q ∈ l, GoodE n q) {U : List Nat} (hU : U.Nodup) (hm : ∀ c, c ∈ U ↔ c ∈ touch n (eqns l)) : Inv n (eqns l) U (List.replicate n 0) := by
  refine ⟨by simp, hU, fun c hc => (mem_touch.1 ((hm c).1 hc)).1, fun c _ => zeros_at n c, fun q hq => ?_, fun q hq hop => ?_⟩
  · obtain ⟨x, hx, rfl⟩ := List.mem_map.1 hq
    unfold restQ
    rw [sumC_zero]
    have := (hg x hx).val.1
    show 0 ≤ x.2 - 0
    omega
  · exfalso
    obtain ⟨x, hx, rfl⟩ := List.mem_map.1 hq
    have hne := (hg x hx).ne
    have : (eqn x).1 ≠ [] := by unfold eqn; simpa using hne
    obtain ⟨c, hc⟩ := List.exists_mem_of_ne_nil _ this
    have hcU : c ∈ U := (hm c).2 (mem_touch.2 ⟨by have := (hg x hx).lt _ ((mem_eqn (hg x hx)).1 hc); omega, eqn x, hq, hc⟩)
    unfold openQ at hop
    have := List.length_eq_zero_iff.1 hop
    rw [List.filter_eq_nil_iff] at this
    exact this c hc (decide_eq_true hcU)
set_option maxRecDepth 10000 in
set_option maxHeartbeats 8000000 in
theorem some_spec (A : Option Addr) (c : Nat) (l : List EqR) (n most : Nat) (I : PH) (hl : Eqs I A c l) (hg : ∀ q ∈ l, GoodE n q) (hn : n ≤ 4096) (hll : l.length ≤ 100000) (h9 : (allC l).length ≤ 100000) (hm1 : 1 ≤ most) (hm2 : most ≤ 1000000) :
    FnSpec Try.prog 60 [.int .i64 (n : Int), .slice A l.length c, .int .i64 (most : Int)] I []
      (fun v R' => ∃ (A' : Option Addr) (c' : Nat) (o : List Row), v = .slice A' o.length c' ∧ o.map (·.2.2) = (solsOf n (eqns l)).take most ∧ R' = [Vec 25 1 A' o.length c' (o.map rowV), Stars (o.map rwR)]) := by
  have hSt := start_spec A c l n I hl hg hn hll (by omega)
  refine FnSpec.enterP Try.func60 rfl Try.ntmps60 rfl fun w F => ?_
  repeat' first
    | ((with_reducible refine Nx.is_wp ?_); first | refine Nx.p_stopr 2 rfl ?_ | refine Nx.wo ?_ | refine Nx.zp (fun hc => ?_) (fun hc => ?_))
    | (refine Nx.zo ?_; first | refine Nx.opr rfl rfl ?_ | (refine Nx.call (Rpre := []) rfl rfl rfl (by kernel_rfl) rfl hSt (Ent.refl _) ?_; rintro _ _ ⟨p, Atd, ctd, Ai, ci, ins, rfl, htv, hiv, hil, hins, rfl⟩) | refine Nx.so ?_ | refine Nx.sb (fun bx => ?_) | refine Nx.sa (fun A2 c2 => ?_))
    | ((with_reducible refine Nx.is_at ?_); first | refine Nx.a ?_ | refine Nx.zd ?_ | refine Nx.zs (fun hc => ?_) (fun hc => ?_))
    | ((with_reducible refine Nx.is_mix ?_); first | refine Nx.m ?_ | refine Nx.zm ?_ | refine Nx.zt (fun hc => ?_) (fun hc => ?_))
    | refine Nx.zx ?_ | fail
  refine unstopN ?_
  revert bx; intro bm
  refine started hiv hil hins (RR := [Blk bm 3 [.int .i64 (most : Int)], p.blk n l.length, iR p.Ar p.cr (valsL l), iR p.Ao p.co (sizesL l), iR p.At p.ct (List.replicate n 0), F]) (by (exact Ent.auto)) fun I1 hI1 hin htd => ?_
  refine Nx.freezeAt 0 rfl fun I2 m2 hI2 hm2 h2 => ?_
  have rm : ∀ I', PH.le I2 I' → ∀ (W : World) (R : List Res), Rd W I' R ⟨bm, 0, none⟩ (.int .i64 (most : Int)) := fun I' hI' W R => Rd.imm (cellH_mono (hm2.trans hI') (Blk.cell h2 rfl))
  have hsane := sane_eqns hg hll h9
  have hSe := fun bo => search_spec p n (eqns l) I2 (hin.mono hI2) (fun I' hI' => someF_spec bo bm most (by omega) I' n (rm I' hI')) hsane (by omega) Atd ctd (touch n (eqns l)) (htd.mono hI2) false (none, 0, []) (List.replicate n 0) (inv_start hg (touch_nd _ _) fun _ => Iff.rfl) (fun c => by rw [zeros_at]; exact Int.le_refl _) (show (0 : Int) < most by omega)
  rw [rest_start, open_start hg, eqns_len] at hSe
  unfold Pl.blk at hSe ⊢
  rw [htv] at hSe ⊢
  repeat' first
    | ((with_reducible refine Nx.is_wp ?_); first | refine Nx.p_stopr 3 rfl ?_ | refine Nx.wo ?_ | refine Nx.zp (fun hc => ?_) (fun hc => ?_))
    | (refine Nx.zo ?_; first | refine Nx.opr rfl rfl ?_ | refine Nx.so ?_ | refine Nx.sb (fun bx => ?_) | refine Nx.sa (fun A2 c2 => ?_))
    | ((with_reducible refine Nx.is_at ?_); first | refine Nx.a ?_ | refine Nx.zd ?_ | refine Nx.zs (fun hc => ?_) (fun hc => ?_))
    | ((with_reducible refine Nx.is_mix ?_); first | refine Nx.m ?_ | refine Nx.zm ?_ | refine Nx.zt (fun hc => ?_) (fun hc => ?_))
    | refine Nx.zx ?_ | fail
  refine unstopN ?_
  revert bx; intro bo
  refine Nx.ent (R' := [someT bo (none, 0, []), Blk p.b PT [.slice Atd (touch n (eqns l)).length ctd, p.iv, .slice p.Ar l.length p.cr, .slice p.Ao l.length p.co, .slice p.At n p.ct], iR p.Ar p.cr (valsL l), iR p.Ao p.co (sizesL l), iR p.At p.ct (List.replicate n 0), F])
    ((Ent.stars_nil _).trans ((Ent.vec_nil 25 1 _).trans (Ent.trans (R' := [Blk bo 33 [.slice none 0 0], Vec 25 1 none 0 0 [], Stars []] ++ [Blk p.b PT [.slice Atd (touch n (eqns l)).length ctd, p.iv, .slice p.Ar l.length p.cr, .slice p.Ao l.length p.co, .slice p.At n p.ct], iR p.Ar p.cr (valsL l), iR p.Ao p.co (sizesL l), iR p.At p.ct (List.replicate n 0), F]) (by (exact Ent.auto)) Ent.stars))) ?_
  repeat' first
    | ((with_reducible refine Nx.is_wp ?_); first | refine Nx.wo ?_ | refine Nx.zp (fun hc => ?_) (fun hc => ?_))
    | (refine Nx.zo ?_; first | refine Nx.opr rfl rfl ?_ | (refine Nx.call rfl rfl rfl (by kernel_rfl) rfl (hSe bo) (by (exact Ent.auto)) ?_; rintro _ _ ⟨rfl, s', G, hs', rfl⟩; obtain ⟨A', c', o⟩ := s'; refine Nx.ent (R' := [Blk bo 33 [.slice A' o.length c'], Vec 25 1 A' o.length c' (o.map rowV), Stars (o.map rwR), F]) (Ent.unstars.trans (by (exact Ent.auto))) ?_) | refine Nx.so ?_ | refine Nx.sb (fun bx => ?_) | refine Nx.sa (fun A2 c2 => ?_))
    | ((with_reducible refine Nx.is_at ?_); first | refine Nx.a ?_ | refine Nx.zd ?_ | refine Nx.zs (fun hc => ?_) (fun hc => ?_))
    | ((with_reducible refine Nx.is_mix ?_); first | refine Nx.m ?_ | refine Nx.zm ?_ | refine Nx.zt (fun hc => ?_) (fun hc => ?_))
    | refine Nx.zx ?_ | fail
  exact Nx.imm_le (hI1.trans hI2) (Nx.ret_fn rfl [_, _] ⟨A', c', o, rfl, by have h := someF_take most (solsOf n (eqns l)) [] (by show 0 < most; omega); rw [List.nil_append, List.length_nil, Nat.sub_zero] at h; exact hs'.trans h, rfl⟩ (by (exact Ent.auto)))
end Go.Proofs.Ytcmdemfhbekabaa
/- Contracts of functions of the given program, and lemmas about plain lists and numbers: what the laws of this seat lean on. -/
namespace Go.Proofs.Ytcmdemfhbekabaa
open Go.Eng Go.Sol
attribute [local irreducible] opK wpList Code.wp Exit.then Exit.inBlock fnPost bodyPost Nx Calls Oper.wp Rd Rds Wr Ent Stars Blk Again Vec FnSpec wpMix QRun Stop Upto wpAt
/-! The least solution with the least, or the greatest, number at a cell -/
def ordOf (n : Nat) (L : List Eqn) (x : Nat) : List Nat := x :: (touch n L).filter fun c => !decide (c = x)
def extOf (n : Nat) (L : List Eqn) (x : Nat) (down : Bool) : List (List Int) := enum 1000000 L down (ordOf n L x) (List.replicate n 0)
end Go.Proofs.Ytcmdemfhbekabaa
/-
  The proof engine, part AG: an element of an owned list of structs is stored whole.
-/
namespace Go.Eng
section
variable {P : Program} {W : World} {I : PH} {R : List Res} {t : TypeId} {A : Option Addr} {n c : Nat}
theorem setsAt_eq : ∀ (vs cs : List Value) (i : Nat), i + vs.length ≤ cs.length → setsAt cs i vs = some (cs.take i ++ vs ++ cs.drop (i + vs.length))
  | [], cs, i, _ => by simp [setsAt]
  | v :: vs, cs, i, h => by
    simp only [List.length_cons] at h
    have hset : ∀ (cs : List Value) (i : Nat), i < cs.length → setAt cs i v = some (cs.set i v) := by
      intro cs
      induction cs with
      | nil => intro i hi; simp at hi
      | cons c r ih =>
        intro i hi
        cases i with
        | zero => rfl
        | succ i =>
          simp only [setAt]
          rw [ih i (by simpa using hi)]
          rfl
    unfold setsAt
    rw [hset cs i (by omega)]
    show setsAt (cs.set i v) (i + 1) vs = _
    rw [setsAt_eq vs (cs.set i v) (i + 1) (by rw [List.length_set]; omega)]
    congr 1
    rw [List.drop_set_of_lt (by omega), List.length_cons, show i + 1 + vs.length = i + (vs.length + 1) by omega]
    rw [List.take_succ_eq_append_getElem (by rw [List.length_set]; omega), List.getElem_set_self, List.take_set_of_le (Nat.le_refl _)]
    simp
theorem patch_take {α : Type} {L vs : List α} {i N : Nat} (h : i + vs.length ≤ N) (hN : N ≤ L.length) : (L.take i ++ vs ++ L.drop (i + vs.length)).take N = (L.take N).take i ++ vs ++ (L.take N).drop (i + vs.length) := by
  have hl : (L.take i ++ vs).length = i + vs.length := by rw [List.length_append, List.length_take]; omega
  rw [List.take_append, List.take_of_length_le (by omega), hl, List.take_take, Nat.min_eq_left (by omega), List.drop_take]
/-- Several cells of an owned list are stored. -/
theorem Wr.vecNs {sz i : Nat} {xs vs : List Value} (hi : i + vs.length ≤ n * sz) (h0 : 0 < vs.length) (h1 : ∀ v ∈ vs, v.oneCell' = true) : Wr P W I (Vec t sz A n c xs :: R) ((ad A).add i) vs (Vec t sz A n c (xs.take i ++ vs ++ xs.drop (i + vs.length)) :: R) := by
  intro w hw
  obtain ⟨⟨m, ⟨m1, m2, hd, rfl, hv, h2⟩, hsat⟩, hst⟩ := id hw
  have hxl := hv.1
  rcases hv.2 with ⟨_, hn0, _⟩ | ⟨b, cur, rfl, hb, hnc, hcm, hsz, htake⟩
  · rw [hn0, Nat.zero_mul] at hi; omega
  have hb0 : w.heap[b]? = some (.cells cur t (0, 0)) := hsat.own _ _ (PH.le_or_left _ _ _ _ hb)
  have hle : n * sz ≤ c * sz := Nat.mul_le_mul_right _ hnc
  have hcl : cur.toList.length = c * sz := by rw [Array.length_toList]; exact hsz
  have hs1 := setsAt_eq vs cur.toList i (by omega)
  obtain ⟨w', hr, hb', hk', hst'⟩ := storeCells_from (P := P) vs cur.toList _ i 0 w (by simpa using hb0) hs1 h1
  refine ⟨w', ?_, ?_⟩
  · rw [ad_some, Addr.add_lit, Nat.zero_add]
    exact hr
  · refine hw.upd (o := .cells (cur.toList.take i ++ vs ++ cur.toList.drop (i + vs.length)).toArray t (0, 0)) (b := b) (fun mm hm => ?_) hb' (fun j hne o' ho => (hk' j hne).trans ho) hst'
    rcases hm.2 with ⟨he, _, _⟩ | ⟨b', cur', he, hb1, _, _, _, _⟩
    · cases he
    cases he
    refine ⟨by rw [hb1]; rfl, ?_, .inr ⟨b, (cur.toList.take i ++ vs ++ cur.toList.drop (i + vs.length)).toArray, rfl, by simp, hnc, hcm, ?_, ?_⟩⟩
    · simp only [List.length_append, List.length_take, List.length_drop]; omega
    · simp only [List.size_toArray, List.length_append, List.length_take, List.length_drop]; omega
    · rw [List.toList_toArray, ← htake]
      exact patch_take hi (by omega)
end
section
variable {C : Cx} {e : Env} {I : PH} {R : List Res} {K : Act → World → Prop} {Q : Exit → Act → World → Prop} {n c : Nat} {t ty el : TypeId} {pos : String} {after : Array Edge} {g : Option (Nat × Bool)} {x y : Operand} {A : Option Addr}
end
end Go.Eng
/-
  The proof engine, part O: slicing where the order is open.
-/
namespace Go.Eng
variable {C : Cx} {e : Env} {S : World → Prop} {ty t el : TypeId} {pos : String} {after : Array Edge} {g : Option (Nat × Bool)} {x y : Operand} {A : Option Addr} {n c : Nat} {dst : Option Tmp}
theorem QRun.slice_hi {k : IntKind} {h sz : Nat} (hx : evo e x = some (.slice A n c)) (hy : evo e y = some (.int k (h : Int))) (ht : C.P.underlying t = some (.slice el)) (hsz : cellsIn C.P el = some sz) (h2 : h ≤ c) :
    QRun C e S ⟨dst, .slice t x none (some y) none, ty, pos, after, g⟩ (.slice A h c) := fun a w ha _ => by
  simp only [execOp, ha.eval hx, ha.eval hy, Option.map_some, Option.map_none]
  refine run_v ?_
  have := run_slice_of (A := A) (n := n) (c := c) (lo := none) (hi := some (.int k (h : Int))) (l := 0) (h := h) ht hsz w (by simp [Instr.sliceBounds, run_sliceBound, h2])
  rw [offA_zero] at this
  exact this
theorem QRun.slice_lo {k : IntKind} {l sz : Nat} (hx : evo e x = some (.slice A n c)) (hy : evo e y = some (.int k (l : Int))) (ht : C.P.underlying t = some (.slice el)) (hsz : cellsIn C.P el = some sz) (h2 : l ≤ n) :
    QRun C e S ⟨dst, .slice t x (some y) none none, ty, pos, after, g⟩ (.slice (offA A c l sz) (n - l) (c - l)) := fun a w ha _ => by
  simp only [execOp, ha.eval hx, ha.eval hy, Option.map_some, Option.map_none]
  refine run_v ?_
  exact run_slice_of (A := A) (n := n) (c := c) (lo := some (.int k (l : Int))) (hi := none) (l := l) (h := n) ht hsz w (by simp [Instr.sliceBounds, run_sliceBound, h2])
end Go.Eng
/-
  The proof engine, part AM: copy.
-/
namespace Go.Eng
section
variable {C : Cx} {e : Env} {I : PH} {R R' : List Res} {K : Act → World → Prop} {Q : Exit → Act → World → Prop} {n c : Nat} {t ty el : TypeId} {pos : String} {after : Array Edge} {g : Option (Nat × Bool)} {x y : Operand} {A : Option Addr} {d : Tmp}
/-- copy(x, y), of two lists in memory. -/
theorem Nx.copy_ {tys : Array TypeId} {dT sT : TypeId} {a b : Addr} {m c2 sz k : Nat} {cs : List Value} (hx : evo e x = some (.slice (some a) n c)) (hy : evo e y = some (.slice (some b) m c2)) (hty : tys = #[dT, sT]) (ht : C.P.underlying dT = some (.slice el)) (hsz : cellsIn C.P el = some sz) (hlt : Nat.blt d C.n = true)
    (hk : k = Nat.min m n) (hcl : cs.length = k * sz) (hr : Rds C.W I R b cs) (hw : Wr C.P C.W I R a cs R') (h : Nx C ((d, .int .i64 (k : Int)) :: e) I R' K) : Nx C e I R (opK C.P ⟨some d, .call { callee := .builtin .copy, args := #[x, y], argTypes := tys }, ty, pos, after, g⟩ K Q) := by
  subst hty
  intro w0 w ha hst
  obtain ⟨w', hst1, hst'⟩ := hw w hst
  have hl := run_loadCells_list (P := C.P) w b cs (fun j v hj => hr j v hj w hst)
  have hrc : (Builtin.copy_ #[dT, sT] ty #[.slice (some a) n c, .slice (some b) m c2]).run C.P w = .ok (.int .i64 (k : Int)) w' := by
    subst hk
    simp [Builtin.copy_, run_underlying ht, Builtin.lenOf, Builtin.firstCells, cellsIn_run hsz, ← hcl, hl, hst1, goInt]
  unfold opK Oper.wp
  have hrun : (execOp w0.eval ⟨some d, .call { callee := .builtin .copy, args := #[x, y], argTypes := #[dT, sT] }, ty, pos, after, g⟩).run C.P w = .ok (.value (.int .i64 (k : Int))) w' := by
    obtain ⟨cs, hcs⟩ := run_builtin (P := C.P) (w := w) (ρ := w0.eval) (b := .copy) (args := #[x, y]) (dst := some d) (ty := ty) (pos := pos) (after := after) (g := g) (tys := #[dT, sT]) (show [x, y].map w0.eval = [Value.slice (some a) n c, Value.slice (some b) m c2] from by simp only [List.map_cons, List.map_nil, ha.eval hx, ha.eval hy])
    rw [hcs]
    exact run_v hrc
  rw [hrun]
  exact h _ w' (ha.put hlt _) hst'
/-- x[l:], where something is left. -/
theorem QRun.slice_from {S : World → Prop} {dst : Option Tmp} {a : Addr} {k : IntKind} {l sz : Nat} (hx : evo e x = some (.slice (some a) n c)) (hy : evo e y = some (.int k (l : Int))) (ht : C.P.underlying t = some (.slice el)) (hsz : cellsIn C.P el = some sz) (h2 : l < n) (h3 : n ≤ c) :
    QRun C e S ⟨dst, .slice t x (some y) none none, ty, pos, after, g⟩ (.slice (some (a.add (l * sz))) (n - l) (c - l)) := by
  have h := QRun.slice_lo (S := S) (dst := dst) (ty := ty) (pos := pos) (after := after) (g := g) hx hy ht hsz (Nat.le_of_lt h2)
  rw [show offA (some a) c l sz = some (a.add (l * sz)) by unfold offA; rw [if_neg (by omega)]; rfl] at h
  exact h
theorem Rds.vec_take {W : World} {sz q : Nat} {xs : List Value} : Rds W I (Vec t sz A n c xs :: R) (ad A) (xs.take q) := fun j u hj => by
  refine Rd.vec ?_
  rw [List.getElem?_take] at hj
  split at hj
  · exact hj
  · cases hj
theorem Wr.vecNs0 {P : Program} {W : World} {sz b : Nat} {xs vs : List Value} (hi : vs.length ≤ n * sz) (h0 : 0 < vs.length) (h1 : ∀ v ∈ vs, v.oneCell' = true) : Wr P W I (Vec t sz (some ⟨b, 0, none⟩) n c xs :: R) ⟨b, 0, none⟩ vs (Vec t sz (some ⟨b, 0, none⟩) n c (xs.take 0 ++ vs ++ xs.drop (0 + vs.length)) :: R) := by
  have h := Wr.vecNs (P := P) (W := W) (I := I) (R := R) (t := t) (A := some ⟨b, 0, none⟩) (n := n) (c := c) (sz := sz) (i := 0) (xs := xs) (vs := vs) (by omega) h0 h1
  rw [ad_some, Addr.add_lit] at h
  exact h
/-- A list that is filled by copying itself. -/
structure Filled (cx : List Value) (sz n m : Nat) (xs : List Value) : Prop where
  len : xs.length = n * sz
  fill : xs.take (m * sz) = (List.replicate m cx).flatten
  one : ∀ v ∈ xs, v.oneCell' = true
theorem flat_rep_len {cx : List Value} {sz : Nat} (hcx : cx.length = sz) (m : Nat) : (List.replicate m cx).flatten.length = m * sz := by
  induction m with
  | zero => simp
  | succ m ih => rw [List.replicate_succ, List.flatten_cons, List.length_append, ih, hcx, Nat.succ_mul]; omega
theorem Filled.step {cx : List Value} {sz n m k : Nat} {xs : List Value} (hcx : cx.length = sz) (h : Filled cx sz n m xs) (hk : k ≤ m) (hkn : m + k ≤ n) : Filled cx sz n (m + k) (xs.take (m * sz) ++ xs.take (k * sz) ++ xs.drop (m * sz + (xs.take (k * sz)).length)) := by
  have hl := h.len
  have h1 : k * sz ≤ m * sz := Nat.mul_le_mul_right _ hk
  have h2 : (m + k) * sz ≤ n * sz := Nat.mul_le_mul_right _ hkn
  rw [Nat.add_mul] at h2
  have hkl : (xs.take (k * sz)).length = k * sz := by rw [List.length_take]; omega
  have hml : (xs.take (m * sz)).length = m * sz := by rw [List.length_take]; omega
  have hkf : xs.take (k * sz) = (List.replicate k cx).flatten := by
    have : xs.take (k * sz) = (xs.take (m * sz)).take (k * sz) := by rw [List.take_take, Nat.min_eq_left h1]
    rw [this, h.fill]
    obtain ⟨j, rfl⟩ : ∃ j, m = k + j := ⟨m - k, by omega⟩
    rw [← List.replicate_append_replicate, List.flatten_append]
    exact List.take_left' (flat_rep_len hcx k)
  refine ⟨?_, ?_, fun v hv => ?_⟩
  · rw [List.length_append, List.length_append, hml, hkl, List.length_drop]; omega
  · rw [List.take_left' (by rw [List.length_append, hml, hkl, Nat.add_mul]), h.fill, hkf, ← List.flatten_append, List.replicate_append_replicate]
  · rcases List.mem_append.1 hv with hv | hv
    · rcases List.mem_append.1 hv with hv | hv
      · exact h.one v (List.mem_of_mem_take hv)
      · exact h.one v (List.mem_of_mem_take hv)
    · exact h.one v (List.mem_of_mem_drop hv)
theorem Filled.start {cx : List Value} {sz n : Nat} {xs : List Value} (hcx : cx.length = sz) (h1 : ∀ v ∈ cx, v.oneCell' = true) (hl : xs.length = n * sz) (hx : ∀ v ∈ xs, v.oneCell' = true) (hn : 1 ≤ n) : Filled cx sz n 1 (xs.take 0 ++ cx ++ xs.drop (0 + cx.length)) := by
  have h2 : 1 * sz ≤ n * sz := Nat.mul_le_mul_right _ hn
  refine ⟨?_, ?_, fun v hv => ?_⟩
  · rw [List.take_zero, List.nil_append, List.length_append, List.length_drop]; omega
  · rw [List.take_zero, List.nil_append, List.take_left' (by omega)]; simp
  · rw [List.take_zero, List.nil_append] at hv
    rcases List.mem_append.1 hv with hv | hv
    · exact h1 v hv
    · exact hx v (List.mem_of_mem_drop hv)
theorem Filled.done {cx : List Value} {sz n : Nat} {xs : List Value} (h : Filled cx sz n n xs) : xs = (List.replicate n cx).flatten := by
  rw [← h.fill, ← h.len, List.take_length]
end
end Go.Eng
/-
  The proof engine, part AI: conversion to a number without sign, in an open statement.
-/
namespace Go.Eng
theorem QRun.conv_u64 {C : Cx} {e : Env} {S : World → Prop} {ty t u : TypeId} {pos : String} {after : Array Edge} {g : Option (Nat × Bool)} {x : Operand} {k : IntKind} {p : Int} {s : TypeDesc} {dst : Option Tmp} (hx : evo e x = some (.int k p)) (hs : C.P.underlying t = some s) (ht : C.P.underlying u = some (.int .u64)) : QRun C e S ⟨dst, .convert t u x, ty, pos, after, g⟩ (.int .u64 (p % B64)) := fun a w ha _ => by
  simp only [execOp, ha.eval hx]
  refine run_v ?_
  unfold convert
  rw [Sem.run_bind, run_underlying hs, Result.andThen_ok, Sem.run_bind, run_underlying ht, Result.andThen_ok]
  show Result.ok (Value.int .u64 (IntKind.u64.wrap p)) w = _
  rw [IntKind.wrap_u64]
end Go.Eng
/- Contracts of functions of the given program, and lemmas about plain lists and numbers: what the laws of this seat lean on. -/
namespace Go.Proofs.Ytcmdemfhbekabaa
def ml64_ren : Go.Shelf.Ren := ⟨fun | 264 => 83 | n => n, fun | 53 => 130 | 46 => 113 | n => n, fun | n => n⟩
theorem ml64 : Go.Proofs.Lays.n264 Try.prog ml64_ren where
  mixed := by kernel_rfl
  f264 := Try.func83.trans (congrArg some (by kernel_rfl))
  t46 := Try.underlying113
  a46 := Try.isAgg113
  z46 := Try.sizeOf113
  v46 := Try.zeroValue113
  t53 := Try.underlying130
  a53 := Try.isAgg130
  z53 := Try.sizeOf130
  v53 := Try.zeroValue130
end Go.Proofs.Ytcmdemfhbekabaa
namespace Go.Proofs.Ytcmdemfhbekabaa
open Go.Eng Go.Sol
attribute [local irreducible] opK wpList Code.wp Exit.then Exit.inBlock fnPost bodyPost Nx Calls Oper.wp Rd Rds Wr Ent Stars Blk Again Vec FnSpec wpMix QRun Stop Upto wpAt
/-! slices.Repeat -/
set_option maxHeartbeats 8000000 in
theorem mulU64_spec (x y : Nat) (hx : x < 18446744073709551616) (hy : y < 18446744073709551616) (I : PH) :
    FnSpec Try.prog 83 [.int .u64 x, .int .u64 y] I [] (fun v R' => v = .tuple #[.int .u64 ((x * y / 18446744073709551616 : Nat) : Int), .int .u64 ((x * y % 18446744073709551616 : Nat) : Int)] ∧ R' = []) :=
  FnSpec.of_same fun w _ _ _ => Any.bits_Mul64 ml64 x y hx hy w
set_option maxHeartbeats 8000000 in
set_option maxRecDepth 10000 in
theorem mulU_spec (y : Nat) (hy : y < 18446744073709551616) (I : PH) :
    FnSpec Try.prog 67 [.int .u64 1, .int .u64 y] I [] (fun v R' => v = .tuple #[.int .u64 0, .int .u64 (y : Int)] ∧ R' = []) := by
  have hM := mulU64_spec 1 y (by omega) hy I
  rw [Nat.one_mul, Nat.div_eq_of_lt hy, Nat.mod_eq_of_lt hy] at hM
  refine FnSpec.enterP Try.func67 rfl Try.ntmps67 rfl fun w F => ?_
  repeat' first
    | ((with_reducible refine Nx.is_wp ?_); first | refine Nx.wo ?_ | refine Nx.zp (fun hc => ?_) (fun hc => ?_))
    | (refine Nx.zo ?_; first | refine Nx.opr rfl rfl ?_ | (refine Nx.call (Rpre := []) rfl rfl rfl (by kernel_rfl) rfl hM (Ent.refl _) ?_; rintro _ _ ⟨rfl, rfl⟩) | refine Nx.so ?_ | refine Nx.sb (fun bx => ?_) | refine Nx.sa (fun A2 c2 => ?_))
    | ((with_reducible refine Nx.is_at ?_); first | refine Nx.a ?_ | refine Nx.zd ?_ | refine Nx.zs (fun hc => ?_) (fun hc => ?_))
    | ((with_reducible refine Nx.is_mix ?_); first | refine Nx.m ?_ | refine Nx.zm ?_ | refine Nx.zt (fun hc => ?_) (fun hc => ?_))
    | refine Nx.zx ?_ | fail
  exact Nx.ret_fn rfl [] ⟨rfl, rfl⟩ (by (exact Ent.auto))
set_option maxRecDepth 10000 in
set_option maxHeartbeats 8000000 in
theorem RepeatI_spec (cx : List Value) (hcx : cx.length = 1) (h1 : ∀ v ∈ cx, v.oneCell' = true) (b n : Nat) (hn1 : 1 ≤ n) (hn : n ≤ 4096) (I : PH) :
    FnSpec Try.prog 92 [.slice (some ⟨b, 0, none⟩) 1 1, .int .i64 (n : Int)] I [Blk b 3 cx] (fun v R' => ∃ b', v = .slice (some ⟨b', 0, none⟩) n n ∧ R' = [Vec 3 1 (some ⟨b', 0, none⟩) n n (List.replicate n cx).flatten]) := by
  have hM := mulU_spec n (by omega) I
  have hB : (n : Int) % B64 = n := by unfold B64; omega
  have hB1 : ((1 : Nat) : Int) % B64 = 1 := by unfold B64; decide
  refine FnSpec.enterP Try.func92 rfl Try.ntmps92 rfl fun w F => ?_
  repeat' first
    | ((with_reducible refine Nx.is_wp ?_); first | refine Nx.wo ?_ | refine Nx.zp (fun hc => ?_) (fun hc => ?_))
    | (refine Nx.zo ?_; first | refine Nx.opr rfl rfl ?_ | (refine Nx.call (Rpre := []) rfl rfl rfl (by kernel_rfl) rfl hM (Ent.refl _) ?_; rintro _ _ ⟨rfl, rfl⟩) | (refine Nx.conv_u64 (p := ((1 : Nat) : Int)) rfl rfl rfl rfl ?_; rw [hB1]) | (refine Nx.conv_u64 (p := (n : Int)) rfl rfl rfl rfl ?_; rw [hB]) | refine Nx.conv_i64 (p := (n : Int)) rfl rfl rfl (by unfold I64; omega) rfl ?_ | refine Nx.makeSlice (by_ := 8) (m := n) rfl rfl rfl rfl rfl rfl rfl rfl rfl (by omega) (by unfold maxLen; omega) (fun bx => ?_) | refine Nx.so ?_ | refine Nx.sb (fun bx => ?_) | refine Nx.sa (fun A2 c2 => ?_))
    | ((with_reducible refine Nx.is_at ?_); first | refine Nx.a ?_ | refine Nx.zd ?_ | refine Nx.zs (fun hc => ?_) (fun hc => ?_))
    | ((with_reducible refine Nx.is_mix ?_); first | refine Nx.m ?_ | refine Nx.zm ?_ | refine Nx.zt (fun hc => ?_) (fun hc => ?_))
    | refine Nx.zx ?_ | fail
  revert bx; intro b7
  generalize hx0 : List.replicate n (Value.int .i64 0) = x0
  have hF0 : Filled cx 1 n 1 (x0.take 0 ++ cx ++ x0.drop (0 + cx.length)) := Filled.start hcx h1 (by rw [← hx0]; simp) (fun v hv => by rw [← hx0] at hv; rw [List.eq_of_mem_replicate hv]; rfl) hn1
  repeat' first
    | ((with_reducible refine Nx.is_wp ?_); first | refine Nx.wo ?_ | refine Nx.zp (fun hc => ?_) (fun hc => ?_))
    | (refine Nx.zo ?_; first | refine Nx.opr rfl rfl ?_ | refine Nx.copy_ (k := 1) (sz := 1) (cs := cx) rfl rfl rfl rfl rfl rfl (by show 1 = min 1 n; omega) (by omega) (Rds.at_ 1 rfl) (Wr.vecNs0 (by omega) (by omega) h1) ?_ | refine Nx.so ?_ | refine Nx.sb (fun bx => ?_) | refine Nx.sa (fun A2 c2 => ?_))
    | ((with_reducible refine Nx.is_at ?_); first | refine Nx.a ?_ | refine Nx.zd ?_ | refine Nx.zs (fun hc => ?_) (fun hc => ?_))
    | ((with_reducible refine Nx.is_mix ?_); first | refine Nx.m ?_ | refine Nx.zm ?_ | refine Nx.zt (fun hc => ?_) (fun hc => ?_))
    | refine Nx.zx ?_ | fail
  refine Nx.p_loop (σ := Nat × List Value) (fun s => [(7, .slice (some ⟨b7, 0, none⟩) n n), (8, .int .i64 (s.1 : Int))]) (fun s => [Vec 3 1 (some ⟨b7, 0, none⟩) n n s.2, F]) (fun s => 1 ≤ s.1 ∧ s.1 ≤ n ∧ Filled cx 1 n s.1 s.2) (fun s => n - s.1) (1, x0.take 0 ++ cx ++ x0.drop (0 + cx.length)) rfl ⟨Nat.le_refl _, hn1, hF0⟩ ⟨rfl, rfl, trivial⟩ (by (exact Ent.auto)) ?_
  rintro ⟨m, xs⟩ ⟨hm1, hmn, hF⟩
  dsimp only at hm1 hmn hF ⊢
  by_cases hlt : m < n
  case neg =>
    obtain rfl : m = n := by omega
    have hd := hF.done
    subst hd
    repeat' first
      | ((with_reducible refine Nx.is_wp ?_); first | refine Nx.wo ?_ | refine Nx.zp (fun hc => ?_) (fun hc => ?_))
      | (refine Nx.zo ?_; first | refine Nx.opr rfl rfl ?_ | refine Nx.so ?_ | refine Nx.sb (fun bx => ?_) | refine Nx.sa (fun A2 c2 => ?_))
      | ((with_reducible refine Nx.is_at ?_); first | refine Nx.a ?_ | refine Nx.zd ?_ | refine Nx.zs (fun hc => ?_) (fun hc => ?_))
      | ((with_reducible refine Nx.is_mix ?_); first | refine Nx.m ?_ | refine Nx.zm ?_ | refine Nx.zt (fun hc => ?_) (fun hc => ?_))
      | refine Nx.zx ?_ | fail
    exact Nx.ret_fn rfl [_] ⟨b7, rfl, rfl⟩ (by (exact Ent.auto))
  have hst := hF.step hcx (k := min m (n - m)) (by omega) (by omega)
  have hxl := hF.len
  repeat' first
    | ((with_reducible refine Nx.is_wp ?_); first | refine Nx.wo ?_ | refine Nx.p_drawF (id := 9) rfl [0, 1, 2, 3, 4, 5, 6, 7, 8, 9] [7] [] _ rfl rfl (by kernel_rfl) (by kernel_rfl) rfl (by repeat first | exact PanicOk.fn | refine PanicOk.then_ ?_ | refine PanicOk.inB ?_) (Ent.eraseK 0 _) ?_ | refine Nx.zp (fun hc => ?_) (fun hc => ?_))
    | (refine Nx.zo ?_; first | refine Nx.opr rfl rfl ?_ | refine Nx.copy_ (k := min m (n - m)) (sz := 1) (cs := xs.take (min m (n - m) * 1)) rfl rfl rfl rfl rfl rfl rfl (by rw [List.length_take]; omega) Rds.vec_take (Wr.vecNs (A := some ⟨b7, 0, none⟩) (i := m * 1) (by rw [List.length_take]; omega) (by rw [List.length_take]; omega) (fun v hv => hF.one v (List.mem_of_mem_take hv))) ?_ | refine Nx.so ?_ | refine Nx.sb (fun bx => ?_) | refine Nx.sa (fun A2 c2 => ?_))
    | ((with_reducible refine Nx.is_at ?_); first | refine Nx.a ?_ | refine Nx.zd ?_ | refine Nx.zs (fun hc => ?_) (fun hc => ?_))
    | ((with_reducible refine Nx.is_mix ?_); first | refine Nx.m_quiet rfl rfl rfl rfl rfl (by first | exact QRun.opr rfl | exact QRun.slice_from (sz := 1) rfl rfl rfl rfl hlt (Nat.le_refl _) | exact QRun.slice_hi (sz := 1) rfl rfl rfl rfl hmn) ?_ | refine Nx.m_quiet_do rfl rfl rfl rfl rfl rfl rfl (by first | exact QRun.opr rfl | exact QRun.slice_from (sz := 1) rfl rfl rfl rfl hlt (Nat.le_refl _) | exact QRun.slice_hi (sz := 1) rfl rfl rfl rfl hmn) ?_ | refine Nx.m ?_ | refine Nx.zm ?_ | refine Nx.zt (fun hc => ?_) (fun hc => ?_))
    | refine Nx.zx ?_ | fail
  exact Nx.again (m + min m (n - m), _) ⟨by dsimp only; omega, by dsimp only; omega, hst⟩ (by dsimp only; omega) ⟨rfl, rfl, trivial⟩ (by (exact Ent.auto))
end Go.Proofs.Ytcmdemfhbekabaa
/- Contracts of functions of the given program, and lemmas about plain lists and numbers: what the laws of this seat lean on. -/
namespace Go.Proofs.Ytcmdemfhbekabaa
open Go.Eng Go.Sol
attribute [local irreducible] opK wpList Code.wp Exit.then Exit.inBlock fnPost bodyPost Nx Calls Oper.wp Rd Rds Wr Ent Stars Blk Again Vec FnSpec wpMix QRun Stop Upto wpAt
/-! equations.Valid -/
def ascB (n : Int) : Int → List Int → Bool
  | _, [] => true
  | b, x :: r => decide (b < x ∧ x < n) && ascB n x r
def rightB (n : Int) (q : EqR) : Bool := decide (q.1.2.2 ≠ []) && decide (0 ≤ q.2 ∧ q.2 ≤ 1000000) && ascB n (-1) q.1.2.2
def validB (n : Int) (l : List EqR) : Bool := decide (1 ≤ n ∧ n ≤ 48) && decide (l.length ≤ 1152) && l.all (rightB n)
set_option maxHeartbeats 8000000 in
set_option maxRecDepth 10000 in
theorem value_spec (z : Int) (I : PH) : FnSpec Try.prog 79 [.int .i64 z] I [] (fun v R' => v = .bool (decide (0 ≤ z ∧ z ≤ 1000000)) ∧ R' = []) := by
  refine FnSpec.enterP Try.func79 rfl Try.ntmps79 rfl fun w F => ?_
  by_cases h : 0 ≤ z
  · by_cases h2 : z ≤ 1000000
    · rw [decide_eq_true (show 0 ≤ z ∧ z ≤ 1000000 from ⟨h, h2⟩)]
      repeat' first
        | ((with_reducible refine Nx.is_wp ?_); first | refine Nx.wo ?_ | refine Nx.zp (fun hc => ?_) (fun hc => ?_))
        | (refine Nx.zo ?_; first | refine Nx.opr rfl rfl ?_ | refine Nx.so ?_ | refine Nx.sb (fun bx => ?_) | refine Nx.sa (fun A2 c2 => ?_))
        | ((with_reducible refine Nx.is_at ?_); first | refine Nx.a ?_ | refine Nx.zd ?_ | refine Nx.zs (fun hc => ?_) (fun hc => ?_))
        | ((with_reducible refine Nx.is_mix ?_); first | refine Nx.m ?_ | refine Nx.zm ?_ | refine Nx.zt (fun hc => ?_) (fun hc => ?_))
        | refine Nx.zx ?_ | fail
      exact Nx.ret_fn rfl [] ⟨congrArg Value.bool (decide_eq_true h2), rfl⟩ (by (exact Ent.auto))
    · rw [decide_eq_false (show ¬(0 ≤ z ∧ z ≤ 1000000) by omega)]
      repeat' first
        | ((with_reducible refine Nx.is_wp ?_); first | refine Nx.wo ?_ | refine Nx.zp (fun hc => ?_) (fun hc => ?_))
        | (refine Nx.zo ?_; first | refine Nx.opr rfl rfl ?_ | refine Nx.so ?_ | refine Nx.sb (fun bx => ?_) | refine Nx.sa (fun A2 c2 => ?_))
        | ((with_reducible refine Nx.is_at ?_); first | refine Nx.a ?_ | refine Nx.zd ?_ | refine Nx.zs (fun hc => ?_) (fun hc => ?_))
        | ((with_reducible refine Nx.is_mix ?_); first | refine Nx.m ?_ | refine Nx.zm ?_ | refine Nx.zt (fun hc => ?_) (fun hc => ?_))
        | refine Nx.zx ?_ | fail
      exact Nx.ret_fn rfl [] ⟨congrArg Value.bool (decide_eq_false h2), rfl⟩ (by (exact Ent.auto))
  · rw [decide_eq_false (show ¬(0 ≤ z ∧ z ≤ 1000000) by omega)]
    repeat' first
      | ((with_reducible refine Nx.is_wp ?_); first | refine Nx.wo ?_ | refine Nx.zp (fun hc => ?_) (fun hc => ?_))
      | (refine Nx.zo ?_; first | refine Nx.opr rfl rfl ?_ | refine Nx.so ?_ | refine Nx.sb (fun bx => ?_) | refine Nx.sa (fun A2 c2 => ?_))
      | ((with_reducible refine Nx.is_at ?_); first | refine Nx.a ?_ | refine Nx.zd ?_ | refine Nx.zs (fun hc => ?_) (fun hc => ?_))
      | ((with_reducible refine Nx.is_mix ?_); first | refine Nx.m ?_ | refine Nx.zm ?_ | refine Nx.zt (fun hc => ?_) (fun hc => ?_))
      | refine Nx.zx ?_ | fail
    exact Nx.ret_fn rfl [] ⟨rfl, rfl⟩ (by (exact Ent.auto))
def lastOr (b : Int) (xs : List Int) (k : Nat) : Int := if k = 0 then b else xs.getD (k - 1) default
theorem ascB_at {n b : Int} : ∀ {xs : List Int} {k : Nat}, k < xs.length → ascB n (lastOr b xs k) (xs.drop k) = (decide (lastOr b xs k < xs.getD k default ∧ xs.getD k default < n) && ascB n (lastOr b xs (k + 1)) (xs.drop (k + 1))) := by
  intro xs k hk
  rw [List.drop_eq_getElem_cons hk, ascB]
  have e : xs.getD k default = xs[k] := by rw [List.getD_eq_getElem?_getD, List.getElem?_eq_getElem hk]; rfl
  rw [show lastOr b xs (k + 1) = xs[k] by unfold lastOr; rw [if_neg (by omega), Nat.add_sub_cancel, e], e]
set_option maxRecDepth 10000 in
set_option maxHeartbeats 4000000 in
theorem right_spec (n : Int) (q : EqR) (I : PH) (hq : Ints I q.1.1 q.1.2.1 q.1.2.2) :
    FnSpec Try.prog 91 [.int .i64 n, .agg #[.slice q.1.1 q.1.2.2.length q.1.2.1, .int .i64 q.2]] I [] (fun v R' => v = .bool (rightB n q) ∧ R' = []) := by
  obtain ⟨⟨A, c, xs⟩, z⟩ := q
  dsimp only at hq ⊢
  have hV := value_spec z I
  have hxl := hq.len
  unfold rightB
  dsimp only
  refine FnSpec.enterP Try.func91 rfl Try.ntmps91 rfl fun w F => ?_
  by_cases h0 : xs = []
  · subst h0
    repeat' first
      | ((with_reducible refine Nx.is_wp ?_); first | refine Nx.wo ?_ | refine Nx.zp (fun hc => ?_) (fun hc => ?_))
      | (refine Nx.zo ?_; first | refine Nx.opr rfl rfl ?_ | refine Nx.so ?_ | refine Nx.sb (fun bx => ?_) | refine Nx.sa (fun A2 c2 => ?_))
      | ((with_reducible refine Nx.is_at ?_); first | refine Nx.a ?_ | refine Nx.zd ?_ | refine Nx.zs (fun hc => ?_) (fun hc => ?_))
      | ((with_reducible refine Nx.is_mix ?_); first | refine Nx.m ?_ | refine Nx.zm ?_ | refine Nx.zt (fun hc => ?_) (fun hc => ?_))
      | refine Nx.zx ?_ | fail
    exact Nx.ret_fn rfl [] ⟨rfl, rfl⟩ (by (exact Ent.auto))
  have hpos : 0 < xs.length := List.length_pos_iff.2 h0
  rw [decide_eq_true h0, Bool.true_and]
  by_cases hv : 0 ≤ z ∧ z ≤ 1000000
  case neg =>
    rw [decide_eq_false hv] at hV ⊢
    repeat' first
      | ((with_reducible refine Nx.is_wp ?_); first | refine Nx.wo ?_ | refine Nx.zp (fun hc => ?_) (fun hc => ?_))
      | (refine Nx.zo ?_; first | refine Nx.opr rfl rfl ?_ | refine Nx.callv rfl rfl rfl (by kernel_rfl) rfl hV ?_ | refine Nx.so ?_ | refine Nx.sb (fun bx => ?_) | refine Nx.sa (fun A2 c2 => ?_))
      | ((with_reducible refine Nx.is_at ?_); first | refine Nx.a ?_ | refine Nx.zd ?_ | refine Nx.zs (fun hc => ?_) (fun hc => ?_))
      | ((with_reducible refine Nx.is_mix ?_); first | refine Nx.m ?_ | refine Nx.zm ?_ | refine Nx.zt (fun hc => ?_) (fun hc => ?_))
      | refine Nx.zx ?_ | fail
    exact Nx.ret_fn rfl [] ⟨rfl, rfl⟩ (by (exact Ent.auto))
  rw [decide_eq_true hv] at hV ⊢
  rw [Bool.true_and]
  repeat' first
    | ((with_reducible refine Nx.is_wp ?_); first | refine Nx.wo ?_ | refine Nx.zp (fun hc => ?_) (fun hc => ?_))
    | (refine Nx.zo ?_; first | refine Nx.opr rfl rfl ?_ | refine Nx.callv rfl rfl rfl (by kernel_rfl) rfl hV ?_ | refine Nx.so ?_ | refine Nx.sb (fun bx => ?_) | refine Nx.sa (fun A2 c2 => ?_))
    | ((with_reducible refine Nx.is_at ?_); first | refine Nx.a ?_ | refine Nx.zd ?_ | refine Nx.zs (fun hc => ?_) (fun hc => ?_))
    | ((with_reducible refine Nx.is_mix ?_); first | refine Nx.m ?_ | refine Nx.zm ?_ | refine Nx.zt (fun hc => ?_) (fun hc => ?_))
    | refine Nx.zx ?_ | fail
  refine Nx.p_loop (σ := Nat) (fun k => [(0, .int .i64 n), (5, .int .i64 (lastOr (-1) xs k)), (19, .slice A xs.length c), (20, .int .i64 xs.length), (21, .int .i64 (k : Int))])
    (fun _ => [F]) (fun k => k ≤ xs.length ∧ ascB n (-1) xs = ascB n (lastOr (-1) xs k) (xs.drop k)) (fun k => xs.length - k) 0 rfl ⟨Nat.zero_le _, rfl⟩ ⟨rfl, rfl, rfl, rfl, rfl, trivial⟩ (by (exact Ent.auto)) ?_
  rintro k ⟨hk, he⟩
  by_cases hlt : k < xs.length
  · rw [ascB_at hlt] at he
    by_cases h1 : lastOr (-1) xs k < xs.getD k default
    · by_cases h2 : xs.getD k default < n
      · rw [decide_eq_true ⟨h1, h2⟩, Bool.true_and] at he
        repeat' first
          | ((with_reducible refine Nx.is_wp ?_); first | refine Nx.wo ?_ | refine Nx.zp (fun hc => ?_) (fun hc => ?_))
          | (refine Nx.zo ?_; first | refine Nx.opr rfl rfl ?_ | refine Nx.indexAddr_nat rfl rfl rfl rfl rfl (by omega) (hq.isSome (by omega)) ?_ | refine Nx.load rfl rfl rfl (hq.rd (by omega)) ?_ | refine Nx.so ?_ | refine Nx.sb (fun bx => ?_) | refine Nx.sa (fun A2 c2 => ?_))
          | ((with_reducible refine Nx.is_at ?_); first | refine Nx.a ?_ | refine Nx.zd ?_ | refine Nx.zs (fun hc => ?_) (fun hc => ?_))
          | ((with_reducible refine Nx.is_mix ?_); first | refine Nx.m ?_ | refine Nx.zm ?_ | refine Nx.zt (fun hc => ?_) (fun hc => ?_))
          | refine Nx.zx ?_ | fail
        exact Nx.again (k + 1) ⟨hlt, he⟩ (by omega) ⟨rfl, by unfold lastOr; rw [if_neg (Nat.succ_ne_zero k), Nat.add_sub_cancel]; rfl, rfl, rfl, rfl, trivial⟩ (by (exact Ent.auto))
      · rw [decide_eq_false (by rintro ⟨_, h⟩; exact h2 h), Bool.false_and] at he
        rw [he]
        repeat' first
          | ((with_reducible refine Nx.is_wp ?_); first | refine Nx.wo ?_ | refine Nx.zp (fun hc => ?_) (fun hc => ?_))
          | (refine Nx.zo ?_; first | refine Nx.opr rfl rfl ?_ | refine Nx.indexAddr_nat rfl rfl rfl rfl rfl (by omega) (hq.isSome (by omega)) ?_ | refine Nx.load rfl rfl rfl (hq.rd (by omega)) ?_ | refine Nx.so ?_ | refine Nx.sb (fun bx => ?_) | refine Nx.sa (fun A2 c2 => ?_))
          | ((with_reducible refine Nx.is_at ?_); first | refine Nx.a ?_ | refine Nx.zd ?_ | refine Nx.zs (fun hc => ?_) (fun hc => ?_))
          | ((with_reducible refine Nx.is_mix ?_); first | refine Nx.m ?_ | refine Nx.zm ?_ | refine Nx.zt (fun hc => ?_) (fun hc => ?_))
          | refine Nx.zx ?_ | fail
        exact Nx.ret_fn rfl [] ⟨rfl, rfl⟩ (by (exact Ent.auto))
    · rw [decide_eq_false (by rintro ⟨h, _⟩; exact h1 h), Bool.false_and] at he
      rw [he]
      repeat' first
        | ((with_reducible refine Nx.is_wp ?_); first | refine Nx.wo ?_ | refine Nx.zp (fun hc => ?_) (fun hc => ?_))
        | (refine Nx.zo ?_; first | refine Nx.opr rfl rfl ?_ | refine Nx.indexAddr_nat rfl rfl rfl rfl rfl (by omega) (hq.isSome (by omega)) ?_ | refine Nx.load rfl rfl rfl (hq.rd (by omega)) ?_ | refine Nx.so ?_ | refine Nx.sb (fun bx => ?_) | refine Nx.sa (fun A2 c2 => ?_))
        | ((with_reducible refine Nx.is_at ?_); first | refine Nx.a ?_ | refine Nx.zd ?_ | refine Nx.zs (fun hc => ?_) (fun hc => ?_))
        | ((with_reducible refine Nx.is_mix ?_); first | refine Nx.m ?_ | refine Nx.zm ?_ | refine Nx.zt (fun hc => ?_) (fun hc => ?_))
        | refine Nx.zx ?_ | fail
      exact Nx.ret_fn rfl [] ⟨rfl, rfl⟩ (by (exact Ent.auto))
  · obtain rfl : k = xs.length := by omega
    rw [List.drop_length] at he
    rw [he]
    repeat' first
      | ((with_reducible refine Nx.is_wp ?_); first | refine Nx.wo ?_ | refine Nx.zp (fun hc => ?_) (fun hc => ?_))
      | (refine Nx.zo ?_; first | refine Nx.opr rfl rfl ?_ | refine Nx.so ?_ | refine Nx.sb (fun bx => ?_) | refine Nx.sa (fun A2 c2 => ?_))
      | ((with_reducible refine Nx.is_at ?_); first | refine Nx.a ?_ | refine Nx.zd ?_ | refine Nx.zs (fun hc => ?_) (fun hc => ?_))
      | ((with_reducible refine Nx.is_mix ?_); first | refine Nx.m ?_ | refine Nx.zm ?_ | refine Nx.zt (fun hc => ?_) (fun hc => ?_))
      | refine Nx.zx ?_ | fail
    exact Nx.ret_fn rfl [] ⟨rfl, rfl⟩ (by (exact Ent.auto))
set_option maxHeartbeats 8000000 in
set_option maxRecDepth 10000 in
theorem wrong_spec (n : Int) (b : Nat) (q : EqR) (I : PH) (hq : Ints I q.1.1 q.1.2.1 q.1.2.2) (hb : ∀ (W : World) (R : List Res), Rd W I R ⟨b, 0, none⟩ (.int .i64 n)) :
    FnSpec Try.prog 90 [.agg #[.slice q.1.1 q.1.2.2.length q.1.2.1, .int .i64 q.2], .pointer (some ⟨b, 0, none⟩)] I [] (fun v R' => v = .bool (!rightB n q) ∧ R' = []) := by
  have hR := right_spec n q I hq
  refine FnSpec.enterP Try.func90 rfl Try.ntmps90 rfl fun w F => ?_
  repeat' first
    | ((with_reducible refine Nx.is_wp ?_); first | refine Nx.wo ?_ | refine Nx.zp (fun hc => ?_) (fun hc => ?_))
    | (refine Nx.zo ?_; first | refine Nx.opr rfl rfl ?_ | refine Nx.load rfl rfl rfl (hb _ _) ?_ | refine Nx.callv rfl rfl rfl (by kernel_rfl) rfl hR ?_ | refine Nx.so ?_ | refine Nx.sb (fun bx => ?_) | refine Nx.sa (fun A2 c2 => ?_))
    | ((with_reducible refine Nx.is_at ?_); first | refine Nx.a ?_ | refine Nx.zd ?_ | refine Nx.zs (fun hc => ?_) (fun hc => ?_))
    | ((with_reducible refine Nx.is_mix ?_); first | refine Nx.m ?_ | refine Nx.zm ?_ | refine Nx.zt (fun hc => ?_) (fun hc => ?_))
    | refine Nx.zx ?_ | fail
  exact Nx.ret_fn rfl [] ⟨rfl, rfl⟩ (by (exact Ent.auto))
set_option maxRecDepth 10000 in
set_option maxHeartbeats 4000000 in
theorem IndexFuncE_spec (n : Int) (b : Nat) (A : Option Addr) (c : Nat) (l : List EqR) (I : PH) (hl : Eqs I A c l) (hb : ∀ (W : World) (R : List Res), Rd W I R ⟨b, 0, none⟩ (.int .i64 n)) :
    FnSpec Try.prog 108 [.slice A l.length c, .func (.func 90) #[] #[.pointer (some ⟨b, 0, none⟩)]] I [] (fun v R' => ∃ i : Int, v = .int .i64 i ∧ decide (0 ≤ i) = !(l.all (rightB n)) ∧ R' = []) := by
  have hlen := hl.len
  refine FnSpec.enterP Try.func108 rfl Try.ntmps108 rfl fun w F => ?_
  repeat' first
    | ((with_reducible refine Nx.is_wp ?_); first | refine Nx.wo ?_ | refine Nx.zp (fun hc => ?_) (fun hc => ?_))
    | (refine Nx.zo ?_; first | refine Nx.opr rfl rfl ?_ | refine Nx.so ?_ | refine Nx.sb (fun bx => ?_) | refine Nx.sa (fun A2 c2 => ?_))
    | ((with_reducible refine Nx.is_at ?_); first | refine Nx.a ?_ | refine Nx.zd ?_ | refine Nx.zs (fun hc => ?_) (fun hc => ?_))
    | ((with_reducible refine Nx.is_mix ?_); first | refine Nx.m ?_ | refine Nx.zm ?_ | refine Nx.zt (fun hc => ?_) (fun hc => ?_))
    | refine Nx.zx ?_ | fail
  refine Nx.p_loop (σ := Nat) (fun k => [(0, .slice A l.length c), (1, .func (.func 90) #[] #[.pointer (some ⟨b, 0, none⟩)]), (7, .int .i64 l.length), (8, .int .i64 (k : Int))])
    (fun _ => [F]) (fun k => k ≤ l.length ∧ (l.take k).all (rightB n) = true) (fun k => l.length - k) 0 rfl ⟨Nat.zero_le _, by simp⟩ ⟨rfl, rfl, rfl, rfl, trivial⟩ (Ent.refl _) ?_
  rintro k ⟨hk, hall⟩
  by_cases hlt : k < l.length
  · have hin := hl.inner _ (getD_memQ hlt)
    have hmem := getD_memQ hlt
    have hsn := take_snocQ hlt
    have hrds : ∀ (W : World) (R : List Res), Rds W I R ((ad A).add (k * 2)) (eqC (l.getD k default)) := fun W R => hl.outer.rds hlt
    generalize l.getD k default = q at hin hmem hsn hrds
    have hW := wrong_spec n b q I hin hb
    cases hr : rightB n q with
    | true =>
      rw [hr] at hW
      repeat' first
        | ((with_reducible refine Nx.is_wp ?_); first | refine Nx.wo ?_ | refine Nx.zp (fun hc => ?_) (fun hc => ?_))
        | (refine Nx.zo ?_; first | refine Nx.opr rfl rfl ?_ | refine Nx.indexAddr_nat rfl rfl rfl rfl rfl (by omega) (hl.outer.isSome (by omega) (by omega)) ?_ | refine Nx.loads rfl rfl rfl rfl (hrds _ _) rfl ?_ | refine Nx.callv rfl rfl rfl (by kernel_rfl) rfl hW ?_ | refine Nx.so ?_ | refine Nx.sb (fun bx => ?_) | refine Nx.sa (fun A2 c2 => ?_))
        | ((with_reducible refine Nx.is_at ?_); first | refine Nx.a ?_ | refine Nx.zd ?_ | refine Nx.zs (fun hc => ?_) (fun hc => ?_))
        | ((with_reducible refine Nx.is_mix ?_); first | refine Nx.m ?_ | refine Nx.zm ?_ | refine Nx.zt (fun hc => ?_) (fun hc => ?_))
        | refine Nx.zx ?_ | fail
      exact Nx.again (k + 1) ⟨hlt, by rw [hsn, List.all_append, hall]; simp [hr]⟩ (by omega) ⟨rfl, rfl, rfl, rfl, trivial⟩ (Ent.refl _)
    | false =>
      rw [hr] at hW
      repeat' first
        | ((with_reducible refine Nx.is_wp ?_); first | refine Nx.wo ?_ | refine Nx.zp (fun hc => ?_) (fun hc => ?_))
        | (refine Nx.zo ?_; first | refine Nx.opr rfl rfl ?_ | refine Nx.indexAddr_nat rfl rfl rfl rfl rfl (by omega) (hl.outer.isSome (by omega) (by omega)) ?_ | refine Nx.loads rfl rfl rfl rfl (hrds _ _) rfl ?_ | refine Nx.callv rfl rfl rfl (by kernel_rfl) rfl hW ?_ | refine Nx.so ?_ | refine Nx.sb (fun bx => ?_) | refine Nx.sa (fun A2 c2 => ?_))
        | ((with_reducible refine Nx.is_at ?_); first | refine Nx.a ?_ | refine Nx.zd ?_ | refine Nx.zs (fun hc => ?_) (fun hc => ?_))
        | ((with_reducible refine Nx.is_mix ?_); first | refine Nx.m ?_ | refine Nx.zm ?_ | refine Nx.zt (fun hc => ?_) (fun hc => ?_))
        | refine Nx.zx ?_ | fail
      refine Nx.ret_fn rfl [] ⟨(k : Int), rfl, ?_, rfl⟩ (by (exact Ent.auto))
      rw [show l.all (rightB n) = false from List.all_eq_false.2 ⟨q, hmem, by rw [hr]; decide⟩]
      simp
  · obtain rfl : k = l.length := by omega
    rw [List.take_length] at hall
    repeat' first
      | ((with_reducible refine Nx.is_wp ?_); first | refine Nx.wo ?_ | refine Nx.zp (fun hc => ?_) (fun hc => ?_))
      | (refine Nx.zo ?_; first | refine Nx.opr rfl rfl ?_ | refine Nx.so ?_ | refine Nx.sb (fun bx => ?_) | refine Nx.sa (fun A2 c2 => ?_))
      | ((with_reducible refine Nx.is_at ?_); first | refine Nx.a ?_ | refine Nx.zd ?_ | refine Nx.zs (fun hc => ?_) (fun hc => ?_))
      | ((with_reducible refine Nx.is_mix ?_); first | refine Nx.m ?_ | refine Nx.zm ?_ | refine Nx.zt (fun hc => ?_) (fun hc => ?_))
      | refine Nx.zx ?_ | fail
    exact Nx.ret_fn rfl [] ⟨-1, rfl, by rw [hall]; rfl, rfl⟩ (by (exact Ent.auto))
set_option maxHeartbeats 8000000 in
set_option maxRecDepth 10000 in
theorem ContainsFuncE_spec (n : Int) (b : Nat) (A : Option Addr) (c : Nat) (l : List EqR) (I : PH) (hl : Eqs I A c l) (hb : ∀ (W : World) (R : List Res), Rd W I R ⟨b, 0, none⟩ (.int .i64 n)) :
    FnSpec Try.prog 89 [.slice A l.length c, .func (.func 90) #[] #[.pointer (some ⟨b, 0, none⟩)]] I [] (fun v R' => v = .bool (!(l.all (rightB n))) ∧ R' = []) := by
  have hI := IndexFuncE_spec n b A c l I hl hb
  refine FnSpec.enterP Try.func89 rfl Try.ntmps89 rfl fun w F => ?_
  repeat' first
    | ((with_reducible refine Nx.is_wp ?_); first | refine Nx.wo ?_ | refine Nx.zp (fun hc => ?_) (fun hc => ?_))
    | (refine Nx.zo ?_; first | refine Nx.opr rfl rfl ?_ | (refine Nx.call (Rpre := []) rfl rfl rfl (by kernel_rfl) rfl hI (Ent.refl _) ?_; rintro _ _ ⟨i, rfl, hi, rfl⟩) | refine Nx.so ?_ | refine Nx.sb (fun bx => ?_) | refine Nx.sa (fun A2 c2 => ?_))
    | ((with_reducible refine Nx.is_at ?_); first | refine Nx.a ?_ | refine Nx.zd ?_ | refine Nx.zs (fun hc => ?_) (fun hc => ?_))
    | ((with_reducible refine Nx.is_mix ?_); first | refine Nx.m ?_ | refine Nx.zm ?_ | refine Nx.zt (fun hc => ?_) (fun hc => ?_))
    | refine Nx.zx ?_ | fail
  exact Nx.ret_fn rfl [] ⟨by rw [← hi], rfl⟩ (by (exact Ent.auto))
set_option maxRecDepth 10000 in
set_option maxHeartbeats 4000000 in
theorem Valid_spec (n : Int) (A : Option Addr) (c : Nat) (l : List EqR) (I : PH) (hl : Eqs I A c l) :
    FnSpec Try.prog 71 [.int .i64 n, .slice A l.length c] I [] (fun v R' => v = .bool (validB n l) ∧ R' = []) := by
  have hlen := hl.len
  unfold validB
  refine FnSpec.enterP Try.func71 rfl Try.ntmps71 rfl fun w F => ?_
  refine Nx.p_seq rfl ?_
  by_cases h1 : 1 ≤ n
  case neg =>
    rw [decide_eq_false (show ¬(1 ≤ n ∧ n ≤ 48) by omega), Bool.false_and, Bool.false_and]
    repeat' first
      | ((with_reducible refine Nx.is_wp ?_); first | refine Nx.wo ?_ | refine Nx.zp (fun hc => ?_) (fun hc => ?_))
      | (refine Nx.zo ?_; first | refine Nx.opr rfl rfl ?_ | refine Nx.so ?_ | refine Nx.sb (fun bx => ?_) | refine Nx.sa (fun A2 c2 => ?_))
      | ((with_reducible refine Nx.is_at ?_); first | refine Nx.a ?_ | refine Nx.zd ?_ | refine Nx.zs (fun hc => ?_) (fun hc => ?_))
      | ((with_reducible refine Nx.is_mix ?_); first | refine Nx.m ?_ | refine Nx.zm ?_ | refine Nx.zt (fun hc => ?_) (fun hc => ?_))
      | refine Nx.zx ?_ | fail
    exact Nx.ret_fn rfl [] ⟨rfl, rfl⟩ (by (exact Ent.auto))
  by_cases h2 : n ≤ 48
  case neg =>
    rw [decide_eq_false (show ¬(1 ≤ n ∧ n ≤ 48) by omega), Bool.false_and, Bool.false_and]
    repeat' first
      | ((with_reducible refine Nx.is_wp ?_); first | refine Nx.wo ?_ | refine Nx.zp (fun hc => ?_) (fun hc => ?_))
      | (refine Nx.zo ?_; first | refine Nx.opr rfl rfl ?_ | refine Nx.so ?_ | refine Nx.sb (fun bx => ?_) | refine Nx.sa (fun A2 c2 => ?_))
      | ((with_reducible refine Nx.is_at ?_); first | refine Nx.a ?_ | refine Nx.zd ?_ | refine Nx.zs (fun hc => ?_) (fun hc => ?_))
      | ((with_reducible refine Nx.is_mix ?_); first | refine Nx.m ?_ | refine Nx.zm ?_ | refine Nx.zt (fun hc => ?_) (fun hc => ?_))
      | refine Nx.zx ?_ | fail
    exact Nx.ret_fn rfl [] ⟨rfl, rfl⟩ (by (exact Ent.auto))
  rw [decide_eq_true (show 1 ≤ n ∧ n ≤ 48 from ⟨h1, h2⟩), Bool.true_and]
  by_cases h3 : l.length ≤ 1152
  case neg =>
    rw [decide_eq_false h3, Bool.false_and]
    repeat' first
      | ((with_reducible refine Nx.is_wp ?_); first | refine Nx.wo ?_ | refine Nx.zp (fun hc => ?_) (fun hc => ?_))
      | (refine Nx.zo ?_; first | refine Nx.opr rfl rfl ?_ | refine Nx.so ?_ | refine Nx.sb (fun bx => ?_) | refine Nx.sa (fun A2 c2 => ?_))
      | ((with_reducible refine Nx.is_at ?_); first | refine Nx.a ?_ | refine Nx.zd ?_ | refine Nx.zs (fun hc => ?_) (fun hc => ?_))
      | ((with_reducible refine Nx.is_mix ?_); first | refine Nx.m ?_ | refine Nx.zm ?_ | refine Nx.zt (fun hc => ?_) (fun hc => ?_))
      | refine Nx.zx ?_ | fail
    exact Nx.ret_fn rfl [] ⟨rfl, rfl⟩ (by (exact Ent.auto))
  rw [decide_eq_true h3, Bool.true_and]
  repeat' first
    | ((with_reducible refine Nx.is_wp ?_); first | refine Nx.p_stopr 1 rfl ?_ | refine Nx.wo ?_ | refine Nx.zp (fun hc => ?_) (fun hc => ?_))
    | (refine Nx.zo ?_; first | refine Nx.opr rfl rfl ?_ | refine Nx.so ?_ | refine Nx.sb (fun bx => ?_) | refine Nx.sa (fun A2 c2 => ?_))
    | ((with_reducible refine Nx.is_at ?_); first | refine Nx.a ?_ | refine Nx.zd ?_ | refine Nx.zs (fun hc => ?_) (fun hc => ?_))
    | ((with_reducible refine Nx.is_mix ?_); first | refine Nx.m ?_ | refine Nx.zm ?_ | refine Nx.zt (fun hc => ?_) (fun hc => ?_))
    | refine Nx.zx ?_ | fail
  refine unstopN ?_
  revert bx; intro b2
  refine Nx.freezeAt 0 rfl fun I2 m2 hI2 hm2 hb2 => ?_
  have rb : ∀ (W : World) (R : List Res), Rd W I2 R ⟨b2, 0, none⟩ (.int .i64 n) := fun W R => Rd.imm (cellH_mono hm2 (Blk.cell hb2 rfl))
  have hC := ContainsFuncE_spec n b2 A c l I2 (hl.mono hI2) rb
  repeat' first
    | ((with_reducible refine Nx.is_wp ?_); first | refine Nx.wo ?_ | refine Nx.zp (fun hc => ?_) (fun hc => ?_))
    | (refine Nx.zo ?_; first | refine Nx.opr rfl rfl ?_ | refine Nx.load rfl rfl rfl (rb _ _) ?_ | refine Nx.callv rfl rfl rfl (by kernel_rfl) rfl hC ?_ | refine Nx.so ?_ | refine Nx.sb (fun bx => ?_) | refine Nx.sa (fun A2 c2 => ?_))
    | ((with_reducible refine Nx.is_at ?_); first | refine Nx.a ?_ | refine Nx.zd ?_ | refine Nx.zs (fun hc => ?_) (fun hc => ?_))
    | ((with_reducible refine Nx.is_mix ?_); first | refine Nx.m ?_ | refine Nx.zm ?_ | refine Nx.zt (fun hc => ?_) (fun hc => ?_))
    | refine Nx.zx ?_ | fail
  exact Nx.imm_le hI2 (Nx.ret_fn rfl [] ⟨by rw [Bool.not_not], rfl⟩ (by (exact Ent.auto)))
theorem ascB_iff {n : Int} : ∀ {b : Int} {xs : List Int}, ascB n b xs = true ↔ xs.Pairwise (· < ·) ∧ ∀ x ∈ xs, b < x ∧ x < n
  | b, [] => by simp [ascB]
  | b, x :: r => by
    rw [ascB, Bool.and_eq_true, decide_eq_true_eq, ascB_iff, List.pairwise_cons]
    constructor
    · rintro ⟨⟨h1, h2⟩, h3, h4⟩
      refine ⟨⟨fun y hy => (h4 y hy).1, h3⟩, fun y hy => ?_⟩
      rcases List.mem_cons.1 hy with rfl | hy
      · exact ⟨h1, h2⟩
      · have := h4 y hy; omega
    · rintro ⟨⟨h1, h2⟩, h3⟩
      exact ⟨h3 x (by simp), h2, fun y hy => ⟨h1 y hy, (h3 y (by simp [hy])).2⟩⟩
theorem rightB_iff {n : Nat} {q : EqR} : rightB n q = true ↔ GoodE n q := by
  unfold rightB
  rw [Bool.and_eq_true, Bool.and_eq_true, decide_eq_true_eq, decide_eq_true_eq, ascB_iff]
  constructor
  · rintro ⟨⟨h1, h2⟩, h3, h4⟩
    exact ⟨h1, h2, h3, fun x hx => by have := h4 x hx; omega⟩
  · rintro ⟨h1, h2, h3, h4⟩
    exact ⟨⟨h1, h2⟩, h3, fun x hx => by have := h4 x hx; omega⟩
end Go.Proofs.Ytcmdemfhbekabaa
/- Contracts of functions of the given program, and lemmas about plain lists and numbers: what the laws of this seat lean on. -/
namespace Go.Proofs.Ytcmdemfhbekabaa
open Go.Eng Go.Sol
attribute [local irreducible] opK wpList Code.wp Exit.then Exit.inBlock fnPost bodyPost Nx Calls Oper.wp Rd Rds Wr Ent Stars Blk Again Vec FnSpec wpMix QRun Stop Upto wpAt
/-! Whether equations are small -/
def roomOf (L : List Eqn) (c : Nat) : Int := L.foldl (fun a q => if c ∈ q.1 then min a (q.2 + 1) else a) 1000001
theorem room_snoc (L : List Eqn) (q : Eqn) (c : Nat) : roomOf (L ++ [q]) c = if c ∈ q.1 then min (roomOf L c) (q.2 + 1) else roomOf L c := by
  unfold roomOf; rw [List.foldl_append]; rfl
theorem room_bd : ∀ {L : List Eqn} {c : Nat}, (∀ q ∈ L, 0 ≤ q.2) → 1 ≤ roomOf L c ∧ roomOf L c ≤ 1000001 := by
  intro L c h
  suffices key : ∀ (L : List Eqn) (a : Int), (∀ q ∈ L, 0 ≤ q.2) → 1 ≤ a ∧ a ≤ 1000001 → 1 ≤ L.foldl (fun a q => if c ∈ q.1 then min a (q.2 + 1) else a) a ∧ L.foldl (fun a q => if c ∈ q.1 then min a (q.2 + 1) else a) a ≤ 1000001 from key L _ h (by omega)
  intro L
  induction L with
  | nil => exact fun a _ ha => ha
  | cons q L ih =>
    intro a hq ha
    rw [List.foldl_cons]
    refine ih _ (fun p hp => hq p (by simp [hp])) ?_
    have := hq q (by simp)
    split <;> omega
def sizeB : Int → List Int → Bool
  | _, [] => true
  | a, x :: r => decide (a * x ≤ 65536) && sizeB (a * x) r
def prodK (xs : List Int) : Nat → Int
  | 0 => 1
  | k + 1 => prodK xs k * xs.getD k default
theorem sizeB_at {xs : List Int} {k : Nat} (hk : k < xs.length) : sizeB (prodK xs k) (xs.drop k) = (decide (prodK xs (k + 1) ≤ 65536) && sizeB (prodK xs (k + 1)) (xs.drop (k + 1))) := by
  rw [List.drop_eq_getElem_cons hk, sizeB]
  rw [show prodK xs (k + 1) = prodK xs k * xs[k] by rw [prodK, List.getD_eq_getElem?_getD, List.getElem?_eq_getElem hk]; rfl]
def roomsOf (n : Nat) (L : List Eqn) : List Int := (touch n L).map (roomOf L)
def smallB (n : Nat) (L : List Eqn) : Bool := sizeB 1 (roomsOf n L)
set_option maxRecDepth 10000 in
set_option maxHeartbeats 8000000 in
theorem small_spec (A : Option Addr) (c : Nat) (l : List EqR) (n : Nat) (I : PH) (hl : Eqs I A c l) (hg : ∀ q ∈ l, GoodE n q) (hn1 : 1 ≤ n) (hn : n ≤ 4096) (h9 : (allC l).length ≤ 1000000) :
    FnSpec Try.prog 72 [.int .i64 (n : Int), .slice A l.length c] I [] (fun v R' => v = .bool (smallB n (eqns l)) ∧ R' = []) := by
  have hlen := hl.len
  have hT := Touched_spec A c l n I hl hg h9
  have hRp := fun b => RepeatI_spec [.int .i64 1000001] rfl (by simp [Value.oneCell']) b n hn1 hn I
  have hval : ∀ k, ∀ q ∈ eqns (l.take k), 0 ≤ q.2 := fun k q hq => by
    obtain ⟨x, hx, rfl⟩ := List.mem_map.1 hq
    exact (hg x (List.mem_of_mem_take hx)).val.1
  refine FnSpec.enterP Try.func72 rfl Try.ntmps72 rfl fun w F => ?_
  repeat' first
    | ((with_reducible refine Nx.is_wp ?_); first | refine Nx.wo ?_ | refine Nx.zp (fun hc => ?_) (fun hc => ?_))
    | (refine Nx.zo ?_; first | refine Nx.opr rfl rfl ?_ | (refine Nx.call rfl rfl rfl (by kernel_rfl) rfl (hRp _) (by (exact Ent.auto)) ?_; rintro _ _ ⟨b5, rfl, rfl⟩) | refine Nx.so ?_ | refine Nx.sb (fun bx => ?_) | refine Nx.sa (fun A2 c2 => ?_))
    | ((with_reducible refine Nx.is_at ?_); first | refine Nx.a ?_ | refine Nx.zd ?_ | refine Nx.zs (fun hc => ?_) (fun hc => ?_))
    | ((with_reducible refine Nx.is_mix ?_); first | refine Nx.m ?_ | refine Nx.zm ?_ | refine Nx.zt (fun hc => ?_) (fun hc => ?_))
    | refine Nx.zx ?_ | fail
  refine Nx.p_loop (σ := Nat × List Int) (fun s => [(0, .int .i64 (n : Int)), (1, .slice A l.length c), (5, .slice (some ⟨b5, 0, none⟩) n n), (16, .slice A l.length c), (17, .int .i64 l.length), (18, .int .i64 (s.1 : Int))])
    (fun s => [Vec 3 1 (some ⟨b5, 0, none⟩) n n (s.2.map (Value.int .i64)), F]) (fun s => s.1 ≤ l.length ∧ s.2.length = n ∧ ∀ x, x < n → s.2.getD x default = roomOf (eqns (l.take s.1)) x) (fun s => l.length - s.1) (0, List.replicate n 1000001) rfl ⟨Nat.zero_le _, by simp, fun x hx => by dsimp only; rw [List.getD_eq_getElem?_getD, List.getElem?_replicate, if_pos hx]; rfl⟩ ⟨rfl, rfl, rfl, rfl, rfl, rfl, trivial⟩ ?_ ?_
  · dsimp only
    rw [show (List.replicate n (1000001 : Int)).map (Value.int .i64) = (List.replicate n [Value.int .i64 1000001]).flatten by rw [List.map_replicate]; simp]
    (exact Ent.auto)
  rintro ⟨k, rm⟩ ⟨hk, hrl, hrm⟩
  dsimp only at hk hrl hrm ⊢
  by_cases hlt : k < l.length
  case pos =>
    have hin := hl.inner _ (getD_memQ hlt)
    have hgk := hg _ (getD_memQ hlt)
    have hes := eqns_snoc hlt
    have hvk := hval k
    have hrds : ∀ (W : World) (R : List Res), Rds W I R ((ad A).add (k * 2)) (eqC (l.getD k default)) := fun W R => hl.outer.rds hlt
    generalize l.getD k default = q at *
    obtain ⟨⟨Ax, cx, ix⟩, z⟩ := q
    dsimp only at hin
    replace hrds : ∀ (W : World) (R : List Res), Rds W I R ((ad A).add (k * 2)) [.slice Ax ix.length cx, .int .i64 z] := hrds
    have hixl := hin.len
    have hz := hgk.val
    dsimp only at hz
    repeat' first
      | ((with_reducible refine Nx.is_wp ?_); first | refine Nx.wo ?_ | refine Nx.zp (fun hc => ?_) (fun hc => ?_))
      | (refine Nx.zo ?_; first | refine Nx.opr rfl rfl ?_ | refine Nx.indexAddr_nat rfl rfl rfl rfl rfl (by omega) (hl.outer.isSome (by omega) (by omega)) ?_ | refine Nx.loads rfl rfl rfl rfl (hrds _ _) rfl ?_ | refine Nx.so ?_ | refine Nx.sb (fun bx => ?_) | refine Nx.sa (fun A2 c2 => ?_))
      | ((with_reducible refine Nx.is_at ?_); first | refine Nx.a ?_ | refine Nx.zd ?_ | refine Nx.zs (fun hc => ?_) (fun hc => ?_))
      | ((with_reducible refine Nx.is_mix ?_); first | refine Nx.m ?_ | refine Nx.zm ?_ | refine Nx.zt (fun hc => ?_) (fun hc => ?_))
      | refine Nx.zx ?_ | fail
    revert bx; intro b7
    refine Nx.p_loop (σ := Nat × List Int) (fun s => [(0, .int .i64 (n : Int)), (1, .slice A l.length c), (5, .slice (some ⟨b5, 0, none⟩) n n), (7, .pointer (some ⟨b7, 0, none⟩)), (16, .slice A l.length c), (17, .int .i64 l.length), (18, .int .i64 (k : Int)), (23, .slice Ax ix.length cx), (24, .int .i64 ix.length), (25, .int .i64 (s.1 : Int))])
      (fun s => [Vec 3 1 (some ⟨b5, 0, none⟩) n n (s.2.map (Value.int .i64)), Blk b7 105 [.slice Ax ix.length cx, .int .i64 z], F]) (fun s => s.1 ≤ ix.length ∧ s.2.length = n ∧ ∀ x, x < n → s.2.getD x default = if (x : Int) ∈ ix.take s.1 then min (roomOf (eqns (l.take k)) x) (z + 1) else roomOf (eqns (l.take k)) x) (fun s => ix.length - s.1) (0, rm) rfl ⟨Nat.zero_le _, hrl, fun x hx => by rw [hrm x hx]; simp⟩ ⟨rfl, rfl, rfl, rfl, rfl, rfl, rfl, rfl, rfl, rfl, trivial⟩ (by (exact Ent.auto)) ?_
    rintro ⟨j, r2⟩ ⟨hj, hr2l, hr2⟩
    dsimp only at hj hr2l hr2 ⊢
    by_cases hjl : j < ix.length
    case neg =>
      obtain rfl : j = ix.length := by omega
      repeat' first
        | ((with_reducible refine Nx.is_wp ?_); first | refine Nx.wo ?_ | refine Nx.zp (fun hc => ?_) (fun hc => ?_))
        | (refine Nx.zo ?_; first | refine Nx.opr rfl rfl ?_ | refine Nx.so ?_ | refine Nx.sb (fun bx => ?_) | refine Nx.sa (fun A2 c2 => ?_))
        | ((with_reducible refine Nx.is_at ?_); first | refine Nx.a ?_ | refine Nx.zd ?_ | refine Nx.zs (fun hc => ?_) (fun hc => ?_))
        | ((with_reducible refine Nx.is_mix ?_); first | refine Nx.m ?_ | refine Nx.zm ?_ | refine Nx.zt (fun hc => ?_) (fun hc => ?_))
        | refine Nx.zx ?_ | fail
      refine Nx.again (k + 1, r2) ⟨hlt, hr2l, fun x hx => ?_⟩ (by dsimp only; omega) ⟨rfl, rfl, rfl, rfl, rfl, rfl, trivial⟩ (by (exact Ent.auto))
      dsimp only
      rw [hr2 x hx, hes, room_snoc, List.take_length]
      by_cases hm : (x : Int) ∈ ix
      · rw [if_pos hm, if_pos ((mem_eqn hgk).2 hm)]; rfl
      · rw [if_neg hm, if_neg fun h => hm ((mem_eqn hgk).1 h)]
    have hixj := hgk.lt (ix.getD j default) (by rw [List.getD_eq_getElem?_getD, List.getElem?_eq_getElem hjl]; exact List.getElem_mem _)
    obtain ⟨y, hy⟩ : ∃ y : Nat, ix.getD j default = (y : Int) := ⟨(ix.getD j default).toNat, by omega⟩
    have hyn : y < n := by omega
    have hixr : ∀ (W : World) (R : List Res), Rd W I R ((ad Ax).add (j * 1)) (.int .i64 (y : Int)) := fun W R => by rw [← hy]; exact hin.rd hjl
    have hrv : ∀ (W : World) (R : List Res), Rd W I (Vec 3 1 (some ⟨b5, 0, none⟩) n n (r2.map (Value.int .i64)) :: R) ((ad (some ⟨b5, 0, none⟩)).add (y * 1)) (.int .i64 (r2.getD y default)) := fun W R => Rd.vecEl 0 (f := Value.int .i64) (l := r2) (i := y) rfl (by omega)
    repeat' first
      | ((with_reducible refine Nx.is_wp ?_); first | refine Nx.wo ?_ | refine Nx.p_drawF (id := 8) rfl [0, 1, 2, 3, 4, 5, 6, 7, 8, 9, 10] [] [11] _ rfl rfl (by kernel_rfl) (by kernel_rfl) rfl (by repeat first | exact PanicOk.fn | refine PanicOk.then_ ?_ | refine PanicOk.inB ?_) (Ent.refl _) ?_ | refine Nx.zp (fun hc => ?_) (fun hc => ?_))
      | (refine Nx.zo ?_; first | refine Nx.opr rfl rfl ?_ | refine Nx.indexAddr_nat rfl rfl rfl rfl rfl (by omega) (hin.isSome (by omega)) ?_ | refine Nx.load rfl rfl rfl (hixr _ _) ?_ | refine Nx.store_of 0 (Value.int .i64) rfl rfl rfl rfl rfl rfl (by omega) ?_ | refine Nx.so ?_ | refine Nx.sb (fun bx => ?_) | refine Nx.sa (fun A2 c2 => ?_))
      | ((with_reducible refine Nx.is_at ?_); first | refine Nx.a ?_ | refine Nx.zd ?_ | refine Nx.zs (fun hc => ?_) (fun hc => ?_))
      | ((with_reducible refine Nx.is_mix ?_); first | refine Nx.m_quiet rfl rfl rfl rfl rfl (by first | exact QRun.opr rfl | exact QRun.idx rfl rfl rfl rfl (by omega) rfl | exact QRun.load rfl rfl (hrv _ _)) ?_ | refine Nx.m_quiet_do rfl rfl rfl rfl rfl rfl rfl (by first | exact QRun.opr rfl | exact QRun.idx rfl rfl rfl rfl (by omega) rfl | exact QRun.load rfl rfl (hrv _ _)) ?_ | refine Nx.m ?_ | refine Nx.zm ?_ | refine Nx.zt (fun hc => ?_) (fun hc => ?_))
      | refine Nx.zx ?_ | fail
    have hyj : (y : Int) ∉ ix.take j := fun hm => by
      obtain ⟨a, ha, he⟩ := List.mem_iff_getElem.1 hm
      rw [List.length_take] at ha
      rw [List.getElem_take] at he
      have hlt2 := (List.pairwise_iff_getElem.1 hgk.asc) a j (by dsimp only; omega) hjl (by omega)
      dsimp only at hlt2
      rw [List.getD_eq_getElem?_getD, List.getElem?_eq_getElem hjl] at hy
      have hy : ix[j] = (y : Int) := hy
      omega
    refine Nx.again (j + 1, r2.set y (min (r2.getD y default) (z + 1))) ⟨hjl, by dsimp only; rw [List.length_set]; exact hr2l, fun x hx => ?_⟩ (by dsimp only; omega) ⟨rfl, rfl, rfl, rfl, rfl, rfl, rfl, rfl, rfl, rfl, trivial⟩ (by (exact Ent.auto))
    dsimp only
    rw [take_snocJ hjl, hy]
    by_cases hxy : x = y
    · subst hxy
      rw [List.getD_eq_getElem?_getD, List.getElem?_set_self (by omega), if_pos (by simp)]
      show min (r2.getD x default) (z + 1) = _
      rw [hr2 x hx, if_neg hyj]
    · rw [List.getD_eq_getElem?_getD, List.getElem?_set_ne (Ne.symm hxy), ← List.getD_eq_getElem?_getD, hr2 x hx]
      have e : ((x : Int) ∈ ix.take j ++ [(y : Int)]) ↔ (x : Int) ∈ ix.take j := by
        rw [List.mem_append, List.mem_singleton]
        exact ⟨fun h => h.resolve_right (by omega), .inl⟩
      by_cases hm : (x : Int) ∈ ix.take j
      · rw [if_pos hm, if_pos (e.2 hm)]
      · rw [if_neg hm, if_neg fun h => hm (e.1 h)]
  obtain rfl : k = l.length := by omega
  rw [List.take_length] at hrm
  have hval := hval l.length
  rw [List.take_length] at hval
  have hrooms : (roomsOf n (eqns l)).length = (touch n (eqns l)).length := List.length_map _
  have htdl : (touch n (eqns l)).length ≤ n := by
    unfold touch
    exact Nat.le_trans (List.length_filter_le _ _) (by simp)
  unfold smallB
  repeat' first
    | ((with_reducible refine Nx.is_wp ?_); first | refine Nx.wo ?_ | refine Nx.zp (fun hc => ?_) (fun hc => ?_))
    | (refine Nx.zo ?_; first | refine Nx.opr rfl rfl ?_ | (refine Nx.call (Rpre := []) rfl rfl rfl (by kernel_rfl) rfl hT (Ent.refl _) ?_; rintro _ _ ⟨A9, c9, rfl, rfl⟩) | refine Nx.so ?_ | refine Nx.sb (fun bx => ?_) | refine Nx.sa (fun A2 c2 => ?_))
    | ((with_reducible refine Nx.is_at ?_); first | refine Nx.a ?_ | refine Nx.zd ?_ | refine Nx.zs (fun hc => ?_) (fun hc => ?_))
    | ((with_reducible refine Nx.is_mix ?_); first | refine Nx.m ?_ | refine Nx.zm ?_ | refine Nx.zt (fun hc => ?_) (fun hc => ?_))
    | refine Nx.zx ?_ | fail
  refine Nx.p_loop (σ := Nat) (fun k => [(0, .int .i64 (n : Int)), (5, .slice (some ⟨b5, 0, none⟩) n n), (10, .int .i64 (prodK (roomsOf n (eqns l)) k)), (44, .slice A9 (touch n (eqns l)).length c9), (45, .int .i64 (touch n (eqns l)).length), (46, .int .i64 (k : Int))])
    (fun _ => [iR A9 c9 ((touch n (eqns l)).map Int.ofNat), Vec 3 1 (some ⟨b5, 0, none⟩) n n (rm.map (Value.int .i64)), F]) (fun k => k ≤ (touch n (eqns l)).length ∧ (0 ≤ prodK (roomsOf n (eqns l)) k ∧ prodK (roomsOf n (eqns l)) k ≤ 65536) ∧ sizeB 1 (roomsOf n (eqns l)) = sizeB (prodK (roomsOf n (eqns l)) k) ((roomsOf n (eqns l)).drop k)) (fun k => (touch n (eqns l)).length - k) 0 rfl ⟨Nat.zero_le _, by rw [prodK]; decide, rfl⟩ ⟨rfl, rfl, rfl, rfl, rfl, rfl, trivial⟩ (by (exact Ent.auto)) ?_
  rintro k ⟨hk, ⟨hp0, hp9⟩, he⟩
  by_cases hlt : k < (touch n (eqns l)).length
  case neg =>
    obtain rfl : k = (touch n (eqns l)).length := by omega
    rw [List.drop_eq_nil_of_le (by omega)] at he
    rw [he]
    repeat' first
      | ((with_reducible refine Nx.is_wp ?_); first | refine Nx.wo ?_ | refine Nx.zp (fun hc => ?_) (fun hc => ?_))
      | (refine Nx.zo ?_; first | refine Nx.opr rfl rfl ?_ | refine Nx.so ?_ | refine Nx.sb (fun bx => ?_) | refine Nx.sa (fun A2 c2 => ?_))
      | ((with_reducible refine Nx.is_at ?_); first | refine Nx.a ?_ | refine Nx.zd ?_ | refine Nx.zs (fun hc => ?_) (fun hc => ?_))
      | ((with_reducible refine Nx.is_mix ?_); first | refine Nx.m ?_ | refine Nx.zm ?_ | refine Nx.zt (fun hc => ?_) (fun hc => ?_))
      | refine Nx.zx ?_ | fail
    exact Nx.ret_fn rfl [] ⟨rfl, rfl⟩ (by (exact Ent.auto))
  have hyn := (mem_touch.1 (List.getElem_mem hlt)).1
  have htr : ∀ (W : World) (R : List Res), Rd W I (iR A9 c9 ((touch n (eqns l)).map Int.ofNat) :: R) ((ad A9).add (k * 1)) (.int .i64 (((touch n (eqns l))[k] : Nat) : Int)) := fun W R => by
    have h := Rd.vecEl (W := W) (I := I) (R := iR A9 c9 ((touch n (eqns l)).map Int.ofNat) :: R) 0 (f := Value.int .i64) (l := (touch n (eqns l)).map Int.ofNat) (i := k) rfl (by rw [List.length_map]; exact hlt)
    rw [List.getD_eq_getElem?_getD, List.getElem?_map, List.getElem?_eq_getElem hlt] at h
    exact h
  have hps : prodK (roomsOf n (eqns l)) (k + 1) = prodK (roomsOf n (eqns l)) k * roomOf (eqns l) (touch n (eqns l))[k] := by
    rw [prodK]
    congr 1
    unfold roomsOf
    rw [List.getD_eq_getElem?_getD, List.getElem?_map, List.getElem?_eq_getElem hlt]; rfl
  have hrb := room_bd (L := eqns l) (c := (touch n (eqns l))[k]) hval
  have hat := sizeB_at (xs := roomsOf n (eqns l)) (k := k) (by omega)
  have hry := hrm _ hyn
  refine Nx.vec_fact fun hv1 hv2 hv3 hA9 => ?_
  rw [List.length_map] at hv2 hA9
  generalize (touch n (eqns l))[k] = y at hyn htr hps hrb hry
  have hrv : ∀ (W : World) (R : List Res) (r0 : Res), Rd W I (r0 :: Vec 3 1 (some ⟨b5, 0, none⟩) n n (rm.map (Value.int .i64)) :: R) ((ad (some ⟨b5, 0, none⟩)).add (y * 1)) (.int .i64 (roomOf (eqns l) y)) := fun W R r0 => by
    rw [← hry]
    exact Rd.vecEl 1 (f := Value.int .i64) (l := rm) (i := y) rfl (by omega)
  generalize roomOf (eqns l) y = r at hps hrb hrv
  have hm1 : prodK (roomsOf n (eqns l)) k * r ≤ 65536 * 1000001 := Int.mul_le_mul hp9 hrb.2 (by omega) (by omega)
  have hm0 : 0 ≤ prodK (roomsOf n (eqns l)) k * r := Int.mul_nonneg hp0 (by omega)
  rw [← hps] at hm0 hm1
  rw [hat] at he
  by_cases hsm : prodK (roomsOf n (eqns l)) (k + 1) ≤ 65536
  · rw [decide_eq_true hsm, Bool.true_and] at he
    rw [hps] at hsm hm0 hm1
    repeat' first
      | ((with_reducible refine Nx.is_wp ?_); first | refine Nx.wo ?_ | refine Nx.zp (fun hc => ?_) (fun hc => ?_))
      | (refine Nx.zo ?_; first | refine Nx.opr rfl rfl ?_ | refine Nx.indexAddr_nat rfl rfl rfl rfl rfl (by omega) (hA9 (by omega)) ?_ | refine Nx.load rfl rfl rfl (htr _ _) ?_ | refine Nx.load rfl rfl rfl (hrv _ _ _) ?_ | refine Nx.indexAddr_nat rfl rfl rfl rfl rfl (by omega) rfl ?_ | refine Nx.so ?_ | refine Nx.sb (fun bx => ?_) | refine Nx.sa (fun A2 c2 => ?_))
      | ((with_reducible refine Nx.is_at ?_); first | refine Nx.a ?_ | refine Nx.zd ?_ | refine Nx.zs (fun hc => ?_) (fun hc => ?_))
      | ((with_reducible refine Nx.is_mix ?_); first | refine Nx.m ?_ | refine Nx.zm ?_ | refine Nx.zt (fun hc => ?_) (fun hc => ?_))
      | refine Nx.zx ?_ | fail
    exact Nx.again (k + 1) ⟨hlt, by rw [hps]; exact ⟨hm0, hsm⟩, he⟩ (by omega) ⟨rfl, rfl, by rw [hps]; rfl, rfl, rfl, rfl, trivial⟩ (by (exact Ent.auto))
  · rw [decide_eq_false hsm, Bool.false_and] at he
    rw [he]
    rw [hps] at hsm hm0 hm1
    repeat' first
      | ((with_reducible refine Nx.is_wp ?_); first | refine Nx.wo ?_ | refine Nx.zp (fun hc => ?_) (fun hc => ?_))
      | (refine Nx.zo ?_; first | refine Nx.opr rfl rfl ?_ | refine Nx.indexAddr_nat rfl rfl rfl rfl rfl (by omega) (hA9 (by omega)) ?_ | refine Nx.load rfl rfl rfl (htr _ _) ?_ | refine Nx.load rfl rfl rfl (hrv _ _ _) ?_ | refine Nx.indexAddr_nat rfl rfl rfl rfl rfl (by omega) rfl ?_ | refine Nx.so ?_ | refine Nx.sb (fun bx => ?_) | refine Nx.sa (fun A2 c2 => ?_))
      | ((with_reducible refine Nx.is_at ?_); first | refine Nx.a ?_ | refine Nx.zd ?_ | refine Nx.zs (fun hc => ?_) (fun hc => ?_))
      | ((with_reducible refine Nx.is_mix ?_); first | refine Nx.m ?_ | refine Nx.zm ?_ | refine Nx.zt (fun hc => ?_) (fun hc => ?_))
      | refine Nx.zx ?_ | fail
    exact Nx.ret_fn rfl [] ⟨rfl, rfl⟩ (by (exact Ent.auto))
/-- The error of all functions. -/
def chkQ (n : Int) (l : List EqR) : Int := if validB n l = false then 55 else if smallB n.toNat (eqns l) = false then 1 else 0
theorem valid_good {n : Int} {l : List EqR} (h : validB n l = true) : (1 ≤ n ∧ n ≤ 48) ∧ l.length ≤ 1152 ∧ ∀ q ∈ l, GoodE n.toNat q := by
  unfold validB at h
  simp only [Bool.and_eq_true, decide_eq_true_eq] at h
  obtain ⟨⟨h1, h2⟩, h3⟩ := h
  refine ⟨h1, h2, fun q hq => rightB_iff.1 ?_⟩
  rw [show ((n.toNat : Nat) : Int) = n by omega]
  exact List.all_eq_true.1 h3 q hq
set_option maxHeartbeats 8000000 in
set_option maxRecDepth 10000 in
theorem check_spec (n : Int) (A : Option Addr) (c : Nat) (l : List EqR) (I : PH) (hl : Eqs I A c l) (h9 : (allC l).length ≤ 1000000) :
    FnSpec Try.prog 59 [.int .i64 n, .slice A l.length c] I [] (fun v R' => v = .int .i64 (chkQ n l) ∧ R' = []) := by
  have hV := Valid_spec n A c l I hl
  unfold chkQ
  refine FnSpec.enterP Try.func59 rfl Try.ntmps59 rfl fun w F => ?_
  cases hv : validB n l with
  | false =>
    rw [hv] at hV
    repeat' first
      | ((with_reducible refine Nx.is_wp ?_); first | refine Nx.wo ?_ | refine Nx.zp (fun hc => ?_) (fun hc => ?_))
      | (refine Nx.zo ?_; first | refine Nx.opr rfl rfl ?_ | refine Nx.callv rfl rfl rfl (by kernel_rfl) rfl hV ?_ | refine Nx.so ?_ | refine Nx.sb (fun bx => ?_) | refine Nx.sa (fun A2 c2 => ?_))
      | ((with_reducible refine Nx.is_at ?_); first | refine Nx.a ?_ | refine Nx.zd ?_ | refine Nx.zs (fun hc => ?_) (fun hc => ?_))
      | ((with_reducible refine Nx.is_mix ?_); first | refine Nx.m ?_ | refine Nx.zm ?_ | refine Nx.zt (fun hc => ?_) (fun hc => ?_))
      | refine Nx.zx ?_ | fail
    exact Nx.ret_fn rfl [] ⟨rfl, rfl⟩ (by (exact Ent.auto))
  | true =>
    rw [hv] at hV
    obtain ⟨h1, h2, h3⟩ := valid_good hv
    have hS := small_spec A c l n.toNat I hl h3 (by omega) (by omega) h9
    rw [show ((n.toNat : Nat) : Int) = n by omega] at hS
    rw [if_neg (by decide)]
    cases hs : smallB n.toNat (eqns l) with
    | false =>
      rw [hs] at hS
      repeat' first
        | ((with_reducible refine Nx.is_wp ?_); first | refine Nx.wo ?_ | refine Nx.zp (fun hc => ?_) (fun hc => ?_))
        | (refine Nx.zo ?_; first | refine Nx.opr rfl rfl ?_ | refine Nx.callv rfl rfl rfl (by kernel_rfl) rfl hV ?_ | refine Nx.callv rfl rfl rfl (by kernel_rfl) rfl hS ?_ | refine Nx.so ?_ | refine Nx.sb (fun bx => ?_) | refine Nx.sa (fun A2 c2 => ?_))
        | ((with_reducible refine Nx.is_at ?_); first | refine Nx.a ?_ | refine Nx.zd ?_ | refine Nx.zs (fun hc => ?_) (fun hc => ?_))
        | ((with_reducible refine Nx.is_mix ?_); first | refine Nx.m ?_ | refine Nx.zm ?_ | refine Nx.zt (fun hc => ?_) (fun hc => ?_))
        | refine Nx.zx ?_ | fail
      exact Nx.ret_fn rfl [] ⟨rfl, rfl⟩ (by (exact Ent.auto))
    | true =>
      rw [hs] at hS
      repeat' first
        | ((with_reducible refine Nx.is_wp ?_); first | refine Nx.wo ?_ | refine Nx.zp (fun hc => ?_) (fun hc => ?_))
        | (refine Nx.zo ?_; first | refine Nx.opr rfl rfl ?_ | refine Nx.callv rfl rfl rfl (by kernel_rfl) rfl hV ?_ | refine Nx.callv rfl rfl rfl (by kernel_rfl) rfl hS ?_ | refine Nx.so ?_ | refine Nx.sb (fun bx => ?_) | refine Nx.sa (fun A2 c2 => ?_))
        | ((with_reducible refine Nx.is_at ?_); first | refine Nx.a ?_ | refine Nx.zd ?_ | refine Nx.zs (fun hc => ?_) (fun hc => ?_))
        | ((with_reducible refine Nx.is_mix ?_); first | refine Nx.m ?_ | refine Nx.zm ?_ | refine Nx.zt (fun hc => ?_) (fun hc => ?_))
        | refine Nx.zx ?_ | fail
      exact Nx.ret_fn rfl [] ⟨rfl, rfl⟩ (by (exact Ent.auto))
end Go.Proofs.Ytcmdemfhbekabaa
/- Contracts of functions of the given program, and lemmas about plain lists and numbers: what the laws of this seat lean on. -/
namespace Go.Proofs.Ytcmdemfhbekabaa
open Go.Eng Go.Sol
attribute [local irreducible] opK wpList Code.wp Exit.then Exit.inBlock fnPost bodyPost Nx Calls Oper.wp Rd Rds Wr Ent Stars Blk Again Vec FnSpec wpMix QRun Stop Upto wpAt
/-! Reaches as rows of three cells; slices.Repeat of one reach -/
abbrev Rch := Int × Int × Bool
/-! A number found in a list -/
set_option maxHeartbeats 8000000 in
set_option maxRecDepth 10000 in
theorem IndexI_spec (A : Option Addr) (c : Nat) (l : List Int) (z : Int) (I : PH) (hl : Ints I A c l) :
    FnSpec Try.prog 50 [.slice A l.length c, .int .i64 z] I [] (fun v R' => ∃ i : Int, v = .int .i64 i ∧ (0 ≤ i ↔ z ∈ l) ∧ R' = []) := by
  have hlen := hl.len
  refine FnSpec.enterP Try.func50 rfl Try.ntmps50 rfl fun w F => ?_
  repeat' first
    | ((with_reducible refine Nx.is_wp ?_); first | refine Nx.wo ?_ | refine Nx.zp (fun hc => ?_) (fun hc => ?_))
    | (refine Nx.zo ?_; first | refine Nx.opr rfl rfl ?_ | refine Nx.so ?_ | refine Nx.sb (fun bx => ?_) | refine Nx.sa (fun A2 c2 => ?_))
    | ((with_reducible refine Nx.is_at ?_); first | refine Nx.a ?_ | refine Nx.zd ?_ | refine Nx.zs (fun hc => ?_) (fun hc => ?_))
    | ((with_reducible refine Nx.is_mix ?_); first | refine Nx.m ?_ | refine Nx.zm ?_ | refine Nx.zt (fun hc => ?_) (fun hc => ?_))
    | refine Nx.zx ?_ | fail
  refine Nx.p_loop (σ := Nat) (fun k => [(0, .slice A l.length c), (1, .int .i64 z), (7, .int .i64 l.length), (8, .int .i64 (k : Int))])
    (fun _ => [F]) (fun k => k ≤ l.length ∧ z ∉ l.take k) (fun k => l.length - k) 0 rfl ⟨Nat.zero_le _, by simp⟩ ⟨rfl, rfl, rfl, rfl, trivial⟩ (Ent.refl _) ?_
  rintro k ⟨hk, hnone⟩
  repeat' first
    | ((with_reducible refine Nx.is_wp ?_); first | refine Nx.wo ?_ | refine Nx.zp (fun hc => ?_) (fun hc => ?_))
    | (refine Nx.zo ?_; first | refine Nx.opr rfl rfl ?_ | refine Nx.indexAddr_nat rfl rfl rfl rfl rfl (by omega) (hl.isSome (by omega)) ?_ | refine Nx.load rfl rfl rfl (hl.rd (by omega)) ?_ | refine Nx.so ?_ | refine Nx.sb (fun bx => ?_) | refine Nx.sa (fun A2 c2 => ?_))
    | ((with_reducible refine Nx.is_at ?_); first | refine Nx.a ?_ | refine Nx.zd ?_ | refine Nx.zs (fun hc => ?_) (fun hc => ?_))
    | ((with_reducible refine Nx.is_mix ?_); first | refine Nx.m ?_ | refine Nx.zm ?_ | refine Nx.zt (fun hc => ?_) (fun hc => ?_))
    | refine Nx.zx ?_ | fail
  · exact Nx.ret_fn rfl [] ⟨_, rfl, ⟨fun _ => hc ▸ getD_memI (by omega), fun _ => by omega⟩, rfl⟩ (Ent.refl _)
  · refine Nx.again (k + 1) ⟨by omega, ?_⟩ (by omega) ⟨rfl, rfl, rfl, rfl, trivial⟩ (Ent.refl _)
    rw [take_snocJ (by omega), List.mem_append, List.mem_singleton]
    rintro (h | h)
    · exact hnone h
    · exact hc h
  · obtain rfl : k = l.length := by omega
    rw [List.take_length] at hnone
    exact Nx.ret_fn rfl [] ⟨_, rfl, ⟨fun h => absurd h (by omega), fun h => absurd h hnone⟩, rfl⟩ (Ent.refl _)
set_option maxHeartbeats 8000000 in
set_option maxRecDepth 10000 in
theorem ContainsI_spec (A : Option Addr) (c : Nat) (l : List Int) (z : Int) (I : PH) (hl : Ints I A c l) :
    FnSpec Try.prog 37 [.slice A l.length c, .int .i64 z] I [] (fun v R' => v = .bool (decide (z ∈ l)) ∧ R' = []) := by
  refine FnSpec.enterP Try.func37 rfl Try.ntmps37 rfl fun w F => ?_
  repeat' first
    | ((with_reducible refine Nx.is_wp ?_); first | refine Nx.wo ?_ | refine Nx.zp (fun hc => ?_) (fun hc => ?_))
    | (refine Nx.zo ?_; first | refine Nx.opr rfl rfl ?_ | refine Nx.so ?_ | refine Nx.sb (fun bx => ?_) | refine Nx.sa (fun A2 c2 => ?_))
    | ((with_reducible refine Nx.is_at ?_); first | refine Nx.a ?_ | refine Nx.zd ?_ | refine Nx.zs (fun hc => ?_) (fun hc => ?_))
    | ((with_reducible refine Nx.is_mix ?_); first | refine Nx.m ?_ | refine Nx.zm ?_ | refine Nx.zt (fun hc => ?_) (fun hc => ?_))
    | refine Nx.zx ?_ | fail
  refine Nx.at_op rfl rfl ?_
  refine Nx.call rfl rfl rfl (by kernel_rfl) rfl (IndexI_spec A c l z I hl) (Ent.refl _) ?_
  rintro v R' ⟨i, rfl, hi, rfl⟩
  repeat' first
    | ((with_reducible refine Nx.is_wp ?_); first | refine Nx.wo ?_ | refine Nx.zp (fun hc => ?_) (fun hc => ?_))
    | (refine Nx.zo ?_; first | refine Nx.opr rfl rfl ?_ | refine Nx.so ?_ | refine Nx.sb (fun bx => ?_) | refine Nx.sa (fun A2 c2 => ?_))
    | ((with_reducible refine Nx.is_at ?_); first | refine Nx.a ?_ | refine Nx.zd ?_ | refine Nx.zs (fun hc => ?_) (fun hc => ?_))
    | ((with_reducible refine Nx.is_mix ?_); first | refine Nx.m ?_ | refine Nx.zm ?_ | refine Nx.zt (fun hc => ?_) (fun hc => ?_))
    | refine Nx.zx ?_ | fail
  exact Nx.ret_fn rfl [] ⟨by rw [decide_eq_decide.2 hi], rfl⟩ (Ent.refl _)
/-! The exported functions -/
def firstOf (n : Int) (l : List EqR) : List Int × Bool × Int := if chkQ n l = 0 then ((solsOf n.toNat (eqns l)).headD [], !(solsOf n.toNat (eqns l)).isEmpty, 0) else ([], false, chkQ n l)
theorem chk_good {n : Int} {l : List EqR} (h : chkQ n l = 0) : (1 ≤ n ∧ n ≤ 48) ∧ l.length ≤ 1152 ∧ (∀ q ∈ l, GoodE n.toNat q) ∧ smallB n.toNat (eqns l) = true := by
  unfold chkQ at h
  cases hv : validB n l with
  | false => rw [hv, if_pos rfl] at h; omega
  | true =>
    rw [hv, if_neg (by decide)] at h
    obtain ⟨h1, h2, h3⟩ := valid_good hv
    refine ⟨h1, h2, h3, ?_⟩
    cases hs : smallB n.toNat (eqns l) with
    | false => rw [hs, if_pos rfl] at h; omega
    | true => rfl
set_option maxHeartbeats 8000000 in
set_option maxRecDepth 10000 in
theorem First_spec (n : Int) (A : Option Addr) (c : Nat) (l : List EqR) (I : PH) (hl : Eqs I A c l) (h9 : (allC l).length ≤ 100000) :
    FnSpec Try.prog 46 [.int .i64 n, .slice A l.length c] I []
      (fun v R' => ∃ (A' : Option Addr) (c' : Nat), v = .tuple #[.slice A' (firstOf n l).1.length c', .bool (firstOf n l).2.1, .int .i64 (firstOf n l).2.2] ∧ R' = [iR A' c' (firstOf n l).1]) := by
  have hC := check_spec n A c l I hl (by omega)
  unfold firstOf
  refine FnSpec.enterP Try.func46 rfl Try.ntmps46 rfl fun w F => ?_
  by_cases h0 : chkQ n l = 0
  case neg =>
    rw [if_neg h0]
    repeat' first
      | ((with_reducible refine Nx.is_wp ?_); first | refine Nx.wo ?_ | refine Nx.zp (fun hc => ?_) (fun hc => ?_))
      | (refine Nx.zo ?_; first | refine Nx.opr rfl rfl ?_ | refine Nx.callv rfl rfl rfl (by kernel_rfl) rfl hC ?_ | refine Nx.so ?_ | refine Nx.sb (fun bx => ?_) | refine Nx.sa (fun A2 c2 => ?_))
      | ((with_reducible refine Nx.is_at ?_); first | refine Nx.a ?_ | refine Nx.zd ?_ | refine Nx.zs (fun hc => ?_) (fun hc => ?_))
      | ((with_reducible refine Nx.is_mix ?_); first | refine Nx.m ?_ | refine Nx.zm ?_ | refine Nx.zt (fun hc => ?_) (fun hc => ?_))
      | refine Nx.zx ?_ | fail
    exact Nx.ret_fn rfl [_] ⟨none, 0, rfl, rfl⟩ ((Ent.vec_nil 3 1 _).trans (by unfold iR; (exact Ent.auto)))
  rw [if_pos h0]
  obtain ⟨h1, h2, h3, _⟩ := chk_good h0
  have hS := some_spec A c l n.toNat 1 I hl h3 (by omega) (by omega) h9 (by omega) (by omega)
  rw [show ((n.toNat : Nat) : Int) = n by omega] at hS
  rw [h0] at hC
  repeat' first
    | ((with_reducible refine Nx.is_wp ?_); first | refine Nx.p_stopr 5 rfl ?_ | refine Nx.wo ?_ | refine Nx.zp (fun hc => ?_) (fun hc => ?_))
    | (refine Nx.zo ?_; first | refine Nx.opr rfl rfl ?_ | refine Nx.callv rfl rfl rfl (by kernel_rfl) rfl hC ?_ | (refine Nx.call (Rpre := []) rfl rfl rfl (by kernel_rfl) rfl hS (Ent.refl _) ?_; rintro _ _ ⟨A1, c1, o, rfl, ho, rfl⟩) | refine Nx.so ?_ | refine Nx.sb (fun bx => ?_) | refine Nx.sa (fun A2 c2 => ?_))
    | ((with_reducible refine Nx.is_at ?_); first | refine Nx.a ?_ | refine Nx.zd ?_ | refine Nx.zs (fun hc => ?_) (fun hc => ?_))
    | ((with_reducible refine Nx.is_mix ?_); first | refine Nx.m ?_ | refine Nx.zm ?_ | refine Nx.zt (fun hc => ?_) (fun hc => ?_))
    | refine Nx.zx ?_ | fail
  refine unstopN ?_
  cases hsol : solsOf n.toNat (eqns l) with
  | nil =>
    rw [hsol] at ho
    have ho : o = [] := by simpa using ho
    subst ho
    repeat' first
      | ((with_reducible refine Nx.is_wp ?_); first | refine Nx.wo ?_ | refine Nx.zp (fun hc => ?_) (fun hc => ?_))
      | (refine Nx.zo ?_; first | refine Nx.opr rfl rfl ?_ | refine Nx.so ?_ | refine Nx.sb (fun bx => ?_) | refine Nx.sa (fun A2 c2 => ?_))
      | ((with_reducible refine Nx.is_at ?_); first | refine Nx.a ?_ | refine Nx.zd ?_ | refine Nx.zs (fun hc => ?_) (fun hc => ?_))
      | ((with_reducible refine Nx.is_mix ?_); first | refine Nx.m ?_ | refine Nx.zm ?_ | refine Nx.zt (fun hc => ?_) (fun hc => ?_))
      | refine Nx.zx ?_ | fail
    exact Nx.ret_fn rfl [_] ⟨none, 0, rfl, rfl⟩ ((Ent.vec_nil 3 1 _).trans (by unfold iR; (exact Ent.auto)))
  | cons t r =>
    rw [hsol] at ho
    match o, ho with
    | [⟨Ao, co, to⟩], ho =>
      have ho : to = t := by simpa using ho
      subst ho
      have hone : ((([(Ao, co, to)] : List Row).length : Nat) : Int) = 1 := rfl
      refine Nx.vec_fact fun _ _ _ hAs => ?_
      repeat' first
        | ((with_reducible refine Nx.is_wp ?_); first | refine Nx.wo ?_ | refine Nx.zp (fun hc => ?_) (fun hc => ?_))
        | (refine Nx.zo ?_; first | refine Nx.opr rfl rfl ?_ | refine Nx.indexAddr_nat (i := 0) rfl rfl rfl rfl rfl (Nat.zero_lt_succ _) (hAs (Nat.zero_lt_succ _)) ?_ | refine Nx.load rfl rfl rfl (Rd.vecEl (f := rowV) (l := [(Ao, co, to)]) (i := 0) 0 rfl (Nat.zero_lt_succ _)) ?_ | refine Nx.so ?_ | refine Nx.sb (fun bx => ?_) | refine Nx.sa (fun A2 c2 => ?_))
        | ((with_reducible refine Nx.is_at ?_); first | refine Nx.a ?_ | refine Nx.zd ?_ | refine Nx.zs (fun hc => ?_) (fun hc => ?_))
        | ((with_reducible refine Nx.is_mix ?_); first | refine Nx.m ?_ | refine Nx.zm ?_ | refine Nx.zt (fun hc => ?_) (fun hc => ?_))
        | refine Nx.zx ?_ | fail
      refine Nx.unfoldAt 1 (B := [rwR (Ao, co, to)]) rfl ?_
      exact Nx.ret_fn rfl [rwR (Ao, co, to)] ⟨Ao, co, rfl, rfl⟩ (by (exact Ent.auto))
abbrev rowsR (A : Option Addr) (c : Nat) (o : List Row) : List Res := [Vec 25 1 A o.length c (o.map rowV), Stars (o.map rwR)]
end Go.Proofs.Ytcmdemfhbekabaa
/- Contracts of functions of the given program, and lemmas about plain lists and numbers: what the laws of this seat lean on. -/
namespace Go.Proofs.Ytcmdemfhbekabaa
open Go.Eng Go.Sol
attribute [local irreducible] opK wpList Code.wp Exit.then Exit.inBlock fnPost bodyPost Nx Calls Oper.wp Rd Rds Wr Ent Stars Blk Again Vec FnSpec wpMix QRun Stop Upto wpAt
/-! Reaches and pairs -/
theorem mem_sols {n : Nat} {l : List EqR} (hg : ∀ q ∈ l, GoodE n q) {s : List Int} : s ∈ solsOf n (eqns l) ↔ Goes n 1000000 (eqns l) (touch n (eqns l)) (List.replicate n 0) s :=
  mem_enum (fun q hq => by obtain ⟨x, hx, rfl⟩ := List.mem_map.1 hq; exact eqn_nd (hg x hx)) (inv_start hg (touch_nd _ _) fun _ => Iff.rfl)
def reachAt (n : Nat) (L : List Eqn) (c : Nat) : Rch := if c ∈ touch n L then (((extOf n L c false).headD []).getD c 0, ((extOf n L c true).headD []).getD c 0, false) else (0, 0, true)
def reachR (n : Int) (l : List EqR) : List Rch × Int := if chkQ n l = 0 then (if solsOf n.toNat (eqns l) = [] then ([], 52) else ((List.range n.toNat).map (reachAt n.toNat (eqns l)), 0)) else ([], chkQ n l)
theorem list_ext_d {α : Type} [Inhabited α] {a b : List α} (hl : a.length = b.length) (h : ∀ j, j < a.length → a.getD j default = b.getD j default) : a = b := by
  refine List.ext_getElem hl fun i h1 h2 => ?_
  have := h i h1
  rw [List.getD_eq_getElem?_getD, List.getD_eq_getElem?_getD, List.getElem?_eq_getElem h1, List.getElem?_eq_getElem h2] at this
  exact this
end Go.Proofs.Ytcmdemfhbekabaa
/- Contracts of functions of the given program, and lemmas about plain lists and numbers: what the laws of this seat lean on. -/
namespace Go.Proofs.Ytcmdemfhbekabaa
open Go.Eng
attribute [local irreducible] opK wpList Code.wp Exit.then Exit.inBlock fnPost bodyPost Nx Calls Oper.wp Rd Rds Wr Ent Stars Blk Again Vec FnSpec wpMix QRun Stop Upto wpAt
def szs (v : List Row) : List Int := v.map fun r => 1 + maxL r.2.2 (r.2.2.length - 1)
theorem szs_succ (v : List Row) (k : Nat) (hk : k < v.length) : szs (v.take (k + 1)) = szs (v.take k) ++ [1 + maxL (v.getD k default).2.2 ((v.getD k default).2.2.length - 1)] := by
  unfold szs
  rw [List.take_succ_eq_append_getElem hk, List.map_append]
  simp [List.getD_eq_getElem?_getD, List.getElem?_eq_getElem hk]
set_option maxHeartbeats 8000000 in
set_option maxRecDepth 10000 in
theorem sizes_spec (B : Option Addr) (cv : Nat) (v : List Row) (I : PH) (hv : RowsOf I B cv v) (h4 : v.length ≤ 4) (h1 : ∀ k, k < v.length → 1 ≤ (v.getD k default).2.2.length ∧ -8 ≤ maxL (v.getD k default).2.2 ((v.getD k default).2.2.length - 1) ∧ maxL (v.getD k default).2.2 ((v.getD k default).2.2.length - 1) ≤ 8) :
    FnSpec Try.prog 80 [.agg #[.slice B v.length cv]] I [] (fun u R' => ∃ A' c', u = .slice A' (szs v).length c' ∧ R' = [Vec 3 1 A' (szs v).length c' ((szs v).map (Value.int .i64))]) := by
  refine FnSpec.enterP Try.func80 rfl Try.ntmps80 rfl fun w F => ?_
  repeat' first
    | ((with_reducible refine Nx.is_wp ?_); first | refine Nx.wo ?_ | refine Nx.zp (fun hc => ?_) (fun hc => ?_))
    | (refine Nx.zo ?_; first | refine Nx.opr rfl rfl ?_ | refine Nx.so ?_ | refine Nx.sb (fun bx => ?_) | refine Nx.sa (fun A2 c2 => ?_))
    | ((with_reducible refine Nx.is_at ?_); first | refine Nx.a ?_ | refine Nx.zd ?_ | refine Nx.zs (fun hc => ?_) (fun hc => ?_))
    | ((with_reducible refine Nx.is_mix ?_); first | refine Nx.m ?_ | refine Nx.zm ?_ | refine Nx.zt (fun hc => ?_) (fun hc => ?_))
    | refine Nx.zx ?_ | fail
  refine Nx.p_loop (σ := Nat × Option Addr × Nat) (fun s => [(7, .slice B v.length cv), (8, .int .i64 v.length), (9, .int .i64 (s.1 : Int)), (3, .slice s.2.1 (szs (v.take s.1)).length s.2.2)])
    (fun s => [Vec 3 1 s.2.1 (szs (v.take s.1)).length s.2.2 ((szs (v.take s.1)).map (Value.int .i64)), F]) (fun s => s.1 ≤ v.length) (fun s => v.length - s.1) (0, none, 0) rfl (Nat.zero_le _) ⟨rfl, rfl, rfl, rfl, trivial⟩ ((Ent.vec_nil _ _ _).trans (by (exact Ent.auto))) ?_
  rintro ⟨k, A', c'⟩ hk
  dsimp only at hk ⊢
  have hx := h1 k
  have hsl : (szs (v.take k)).length ≤ k := by unfold szs; rw [List.length_map]; exact List.length_take_le _ _
  repeat' first
    | ((with_reducible refine Nx.is_wp ?_); first | refine Nx.wo ?_ | refine Nx.zp (fun hc => ?_) (fun hc => ?_))
    | (refine Nx.zo ?_; first | refine Nx.opr rfl rfl ?_ | refine Nx.indexAddr_nat rfl rfl rfl rfl rfl (by omega) (hv.outer.isSome (by omega)) ?_ | refine Nx.load rfl rfl rfl (hv.outer.rd (by omega)) ?_ | refine Nx.callv rfl rfl rfl (by kernel_rfl) rfl (Max_spec _ _ _ _ (hv.at (by omega)) (by omega)) ?_ | refine Nx.so ?_ | refine Nx.sb (fun bx => ?_) | refine Nx.sa (fun A2 c2 => ?_))
    | ((with_reducible refine Nx.is_at ?_); first | refine Nx.a ?_ | refine Nx.zd ?_ | refine Nx.zs (fun hc => ?_) (fun hc => ?_))
    | ((with_reducible refine Nx.is_mix ?_); first | refine Nx.m ?_ | refine Nx.zm ?_ | refine Nx.zt (fun hc => ?_) (fun hc => ?_))
    | refine Nx.zx ?_ | fail
  · have e1 := szs_succ v k (by omega)
    refine Nx.again (k + 1, A2, c2) (by dsimp only; omega) (by dsimp only; omega) ⟨rfl, rfl, rfl, by rw [e1, List.length_append]; rfl, trivial⟩ ?_
    refine Ent.pickE 0 rfl (by rw [e1, List.map_append, List.length_append]; rfl) ?_
    (exact Ent.auto)
  · rw [List.take_of_length_le (by omega)]
    exact Nx.ret_fn rfl [_] ⟨A', c', rfl, rfl⟩ (by (exact Ent.auto))
end Go.Proofs.Ytcmdemfhbekabaa
/- Contracts of functions of the given program, and lemmas about plain lists and numbers: what the laws of this seat lean on. -/
namespace Go.Proofs.Ytcmdemfhbekabaa
open Go.Eng
/-! Places as a function of the number; published cells as a function of the cell -/
theorem prod_cons (x : Int) (r : List Int) : prod (x :: r) = x * prod r := by
  have key : ∀ (r : List Int) (a : Int), r.foldl (· * ·) a = a * r.foldl (· * ·) 1 := by
    intro r
    induction r with
    | nil => intro a; simp
    | cons y r ih => intro a; simp only [List.foldl_cons]; rw [ih (a * y), ih (1 * y), Int.one_mul, Int.mul_assoc]
  unfold prod
  rw [List.foldl_cons, key, Int.one_mul]
theorem prod_drop (l : List Int) (k : Nat) (hk : k < l.length) : prod (l.drop k) = l.getD k default * prod (l.drop (k + 1)) := by
  rw [drop_at hk, prod_cons]
theorem prod_drop_pos {l : List Int} (hs : Sizes l) : ∀ j, j ≤ l.length → 0 < prod (l.drop (l.length - j))
  | 0, _ => by simp [prod]
  | j + 1, hj => by
    have ih := prod_drop_pos hs j (by omega)
    have hx := hs.at (k := l.length - (j + 1)) (by omega)
    rw [prod_drop l _ (by omega), show l.length - (j + 1) + 1 = l.length - j by omega]
    exact Int.mul_pos (by omega) ih
def plAt (l : List Int) (n : Int) (k : Nat) : Int := (n / prod (l.drop (k + 1))) % l.getD k default
def pl (l : List Int) (n : Int) : List Int := (List.range l.length).map (plAt l n)
theorem map_range_at (f : Nat → Int) (m k : Nat) (h : k < m) : ((List.range m).map f).getD k default = f k := by
  rw [List.getD_eq_getElem?_getD, List.getElem?_map, List.getElem?_range h]; rfl
theorem list_ext {xs ys : List Int} (hl : xs.length = ys.length) (h : ∀ k, k < xs.length → xs.getD k default = ys.getD k default) : xs = ys := by
  refine List.ext_getElem hl fun k h1 h2 => ?_
  have := h k h1
  rw [List.getD_eq_getElem?_getD, List.getD_eq_getElem?_getD, List.getElem?_eq_getElem h1, List.getElem?_eq_getElem h2] at this
  exact this
theorem numK_div {l xs : List Int} (hs : Sizes l) (hx : InR l xs) : ∀ j, j ≤ l.length → numK l xs l.length / prod (l.drop (l.length - j)) = numK l xs (l.length - j)
  | 0, _ => by simp [prod]
  | j + 1, hj => by
    have ih := numK_div hs hx j (by omega)
    have hp := prod_drop_pos hs j (by omega)
    have hat := hs.at (k := l.length - (j + 1)) (by omega)
    have hxk := hx.each (l.length - (j + 1)) (by omega)
    have e1 : l.length - (j + 1) + 1 = l.length - j := by omega
    rw [prod_drop l _ (by omega), e1, Int.mul_comm, ← Int.ediv_ediv_of_nonneg (by omega), ih]
    have e2 : numK l xs (l.length - j) = numK l xs (l.length - (j + 1)) * l.getD (l.length - (j + 1)) default + xs.getD (l.length - (j + 1)) default := by rw [← e1]; rfl
    rw [e2, Int.add_comm, Int.add_mul_ediv_right _ _ (by omega), Int.ediv_eq_zero_of_lt hxk.1 hxk.2, Int.zero_add]
theorem pl_of {l xs : List Int} {n : Int} (hs : Sizes l) (hx : InR l xs) (hn : numK l xs l.length = n) : xs = pl l n := by
  refine list_ext (by simp [pl, hx.len]) fun k hk => ?_
  have hk' : k < l.length := by have := hx.len; omega
  have h1 := numK_div hs hx (l.length - (k + 1)) (by omega)
  rw [show l.length - (l.length - (k + 1)) = k + 1 by omega] at h1
  unfold pl
  rw [map_range_at _ _ _ hk', plAt, ← hn, h1]
  have hxk := hx.each k hk'
  show _ = (numK l xs k * l.getD k default + xs.getD k default) % l.getD k default
  rw [Int.add_comm, Int.add_mul_emod_self_right, Int.emod_eq_of_lt hxk.1 hxk.2]
theorem numb_facts : ∀ (l : List Int) (nx n : Int), numb l nx = some n → nx ≤ n ∧ n ≤ nx + l.length ∧ (∀ x ∈ l, -1 ≤ x ∧ x < n) ∧ (nx < n → n - 1 ∈ l)
  | [], nx, n, h => by simp [numb] at h; subst h; simp
  | g :: r, nx, n, h => by
    unfold numb at h
    split at h
    · cases h
    · rename_i hg
      by_cases he : g = nx
      · rw [if_pos he] at h
        obtain ⟨h1, h2, h3, h4⟩ := numb_facts r _ n h
        refine ⟨by omega, by simp; omega, fun x hx => ?_, fun hlt => ?_⟩
        · rcases List.mem_cons.1 hx with rfl | hx
          · omega
          · exact h3 x hx
        · by_cases h5 : nx + 1 < n
          · exact List.mem_cons_of_mem _ (h4 h5)
          · rw [show n - 1 = g by omega]; exact List.mem_cons_self
      · rw [if_neg he] at h
        obtain ⟨h1, h2, h3, h4⟩ := numb_facts r _ n h
        refine ⟨h1, by simp; omega, fun x hx => ?_, fun hlt => List.mem_cons_of_mem _ (h4 hlt)⟩
        rcases List.mem_cons.1 hx with rfl | hx
        · omega
        · exact h3 x hx
theorem maxL_le (l : List Int) : ∀ k j, j ≤ k → l.getD j default ≤ maxL l k
  | 0, j, h => by obtain rfl : j = 0 := by omega
                  exact Int.le_refl _
  | k + 1, j, h => by
    simp only [maxL]
    by_cases hj : j ≤ k
    · have := maxL_le l k j hj; omega
    · obtain rfl : j = k + 1 := by omega
      omega
theorem maxL_at (l : List Int) : ∀ k, ∃ j, j ≤ k ∧ maxL l k = l.getD j default
  | 0 => ⟨0, Nat.le_refl _, rfl⟩
  | k + 1 => by
    obtain ⟨j, hj, he⟩ := maxL_at l k
    simp only [maxL]
    by_cases h : maxL l k ≤ l.getD (k + 1) default
    · exact ⟨k + 1, Nat.le_refl _, by omega⟩
    · exact ⟨j, by omega, by omega⟩
theorem getD_mem {l : List Int} {k : Nat} (h : k < l.length) : l.getD k default ∈ l := by
  rw [List.getD_eq_getElem?_getD, List.getElem?_eq_getElem h]; exact List.getElem_mem _
theorem mem_getD {l : List Int} {x : Int} (h : x ∈ l) : ∃ k, k < l.length ∧ l.getD k default = x := by
  obtain ⟨k, hk, he⟩ := List.mem_iff_getElem.1 h
  exact ⟨k, hk, by rw [List.getD_eq_getElem?_getD, List.getElem?_eq_getElem hk]; exact he⟩
/-- What is known of the groups of one dimension. -/
structure Grouped (l : List Int) : Prop where
  pos : 1 ≤ l.length
  max : 0 ≤ maxL l (l.length - 1) ∧ maxL l (l.length - 1) < l.length
  each : ∀ k, k < l.length → -1 ≤ l.getD k default ∧ l.getD k default ≤ maxL l (l.length - 1)
theorem grouped_of {l : List Int} (h : numbB l = true) : Grouped l := by
  unfold numbB at h
  split at h
  · rename_i n hn
    have h0 : 0 < n := of_decide_eq_true h
    obtain ⟨h1, h2, h3, h4⟩ := numb_facts l 0 n hn
    have hm := h4 h0
    obtain ⟨k, hk, he⟩ := mem_getD hm
    have h5 := maxL_le l (l.length - 1) k (by omega)
    obtain ⟨j, hj, hj'⟩ := maxL_at l (l.length - 1)
    have h6 := h3 _ (getD_mem (l := l) (k := j) (by omega))
    have h7 : maxL l (l.length - 1) = n - 1 := by omega
    refine ⟨by omega, by omega, fun i hi => ?_⟩
    have := h3 _ (getD_mem hi)
    omega
  · cases h
/-- The group of each place. -/
def gsOf (v : List Row) (xs : List Int) : List Int := (List.range v.length).map fun i => (v.getD i default).2.2.getD (xs.getD i default).toNat default
def pubOf (l : List Int) (v : List Row) (n : Nat) : Int := if (gsOf v (pl l n)).contains (-1) then -1 else numK (szs v) (gsOf v (pl l n)) v.length
def pubs (l : List Int) (v : List Row) : List Int := (List.range (prod l).toNat).map (pubOf l v)
theorem szs_len (v : List Row) : (szs v).length = v.length := by simp [szs]
theorem szs_at (v : List Row) (k : Nat) (hk : k < v.length) : (szs v).getD k default = 1 + maxL (v.getD k default).2.2 ((v.getD k default).2.2.length - 1) := by
  unfold szs
  rw [List.getD_eq_getElem?_getD, List.getElem?_map, List.getD_eq_getElem?_getD, List.getElem?_eq_getElem hk]
  rfl
theorem Viewed.grouped {l : List Int} {v : List Row} (hw : Viewed l v) {k : Nat} (hk : k < l.length) : Grouped (v.getD k default).2.2 := grouped_of (hw.each k hk).2
theorem Viewed.szs {l : List Int} {v : List Row} (hw : Viewed l v) {k : Nat} (hk : k < l.length) : 1 ≤ (szs v).getD k default ∧ (szs v).getD k default ≤ l.getD k default := by
  have hg := hw.grouped hk
  have h1 := (hw.each k hk).1
  have h2 := hg.max
  rw [szs_at v k (by rw [hw.len]; exact hk)]
  omega
theorem prod_le {a b : List Int} (hl : a.length = b.length) (h : ∀ k, k < b.length → 1 ≤ a.getD k default ∧ a.getD k default ≤ b.getD k default) : ∀ k, k ≤ b.length → 1 ≤ prod (a.take k) ∧ prod (a.take k) ≤ prod (b.take k)
  | 0, _ => by simp [prod]
  | k + 1, hk => by
    have ih := prod_le hl h k (by omega)
    have hx := h k (by omega)
    rw [prod_succ a k (by omega), prod_succ b k (by omega)]
    refine ⟨?_, Int.mul_le_mul ih.2 hx.2 (by omega) (by omega)⟩
    have := Int.mul_le_mul ih.1 hx.1 (by omega) (by omega)
    omega
theorem Viewed.sizes {l : List Int} {v : List Row} (hs : Sizes l) (hw : Viewed l v) : Sizes (Proofs.Ytcmdemfhbekabaa.szs v) := by
  have hlen : (Proofs.Ytcmdemfhbekabaa.szs v).length = l.length := by rw [szs_len, hw.len]
  refine ⟨by rw [hlen]; exact hs.dims, fun x hx => ?_, ?_⟩
  · obtain ⟨k, hk, rfl⟩ := mem_getD hx
    have h1 := hw.szs (k := k) (by omega)
    have h2 := hs.at (k := k) (by omega)
    omega
  · have := prod_le hlen (fun k hk => hw.szs hk) l.length (Nat.le_refl _)
    rw [List.take_length, ← hlen, List.take_length] at this
    have := hs.cells
    omega
theorem gsOf_len (v : List Row) (xs : List Int) : (gsOf v xs).length = v.length := by simp [gsOf]
theorem gsOf_at (v : List Row) (xs : List Int) (k : Nat) (hk : k < v.length) : (gsOf v xs).getD k default = (v.getD k default).2.2.getD (xs.getD k default).toNat default := map_range_at _ _ _ hk
theorem gsOf_bd {l : List Int} {v : List Row} {xs : List Int} (hw : Viewed l v) (hx : InR l xs) {k : Nat} (hk : k < l.length) : -1 ≤ (gsOf v xs).getD k default ∧ (gsOf v xs).getD k default < (szs v).getD k default := by
  have hkv : k < v.length := by rw [hw.len]; exact hk
  have hg := hw.grouped hk
  have h1 := (hw.each k hk).1
  have h2 := hx.each k hk
  have h3 := hg.each (xs.getD k default).toNat (by omega)
  rw [gsOf_at v xs k hkv, szs_at v k hkv]
  omega
theorem gsOf_in {l : List Int} {v : List Row} {xs : List Int} (hw : Viewed l v) (hx : InR l xs) (hc : (gsOf v xs).contains (-1) = false) : InR (szs v) (gsOf v xs) := by
  refine ⟨by rw [gsOf_len, szs_len], fun k hk => ?_⟩
  rw [szs_len, hw.len] at hk
  have h1 := gsOf_bd hw hx hk
  refine ⟨?_, h1.2⟩
  have hne : (gsOf v xs).getD k default ≠ -1 := fun h => by
    have hm := getD_mem (l := gsOf v xs) (k := k) (by rw [gsOf_len, hw.len]; exact hk)
    rw [h] at hm
    rw [List.contains_eq_mem, decide_eq_false_iff_not] at hc
    exact hc hm
  omega
/-- The places of a cell. -/
theorem mod_range {a d : Int} (h : 1 ≤ d) : 0 ≤ a % d ∧ a % d < d := ⟨Int.emod_nonneg _ (by omega), Int.emod_lt_of_pos _ (by omega)⟩
theorem pl_in {l : List Int} (hs : Sizes l) (n : Int) : InR l (pl l n) := by
  refine ⟨by simp [pl], fun k hk => ?_⟩
  unfold pl
  rw [map_range_at _ _ _ hk]
  exact mod_range (hs.at hk).1
theorem pub_bd {l : List Int} {v : List Row} (hs : Sizes l) (hw : Viewed l v) (n : Nat) : -1 ≤ pubOf l v n ∧ pubOf l v n < prod (szs v) := by
  have hp := (hw.sizes hs).bound (k := (szs v).length) (Nat.le_refl _)
  rw [List.take_length] at hp
  unfold pubOf
  split
  · omega
  · rename_i hc
    have hin := gsOf_in hw (pl_in hs n) (by simpa using hc)
    have := numK_bound hin (szs v).length (Nat.le_refl _)
    rw [List.take_length, szs_len] at this
    omega
end Go.Proofs.Ytcmdemfhbekabaa
