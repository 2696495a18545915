/- Contracts of functions of the given program, and lemmas about plain lists and numbers: what the laws of this seat lean on. -/
import Derived.Scope
import Derived.Recover
import Derived.WalkSmall
import Derived.Sort.Row
import Derived.Sort.Grow
import Derived.Shelf.SortM.Plain
import Derived.Shelf.SortM.SortNone
import Derived.Shelf.SlicesG.CompactI
import Derived.Laws.MakeOwn
import Derived.Laws.CopyRow
import Derived.Shelf.Bits.Mul64
import Derived.Test.YtpcnapidlhpbkaaGreatDoorBs5
namespace Go.Proofs.YtpcnapidlhpbkaaGreatDoor
open Go.Eng
attribute [local irreducible] opK wpList Code.wp Exit.then Exit.inBlock fnPost bodyPost Nx Calls Oper.wp Rd Rds Wr Ent Stars Blk Again Vec FnSpec wpMix QRun Stop Upto wpAt
/-! Pivots, in place -/
abbrev RowT := Nat × (Nat → Rat)
def rowsL (q : Bl.Eqs) (T : Nat → Nat → Rat) : List RowT := (List.range q.m).map fun i => (i, T i)
def rowF (q : Bl.Eqs) (ta : TA) (x : RowT) : Res := ratsR (ta.ra x.1).1 (q.N + 1) (ta.ra x.1).2 (rl (q.N + 1) x.2)
def trowsR (q : Bl.Eqs) (ta : TA) (T : Nat → Nat → Rat) : Res := Stars ((rowsL q T).map (rowF q ta))
def basL (q : Bl.Eqs) (B : Nat → Nat) : List Int := (List.range q.m).map fun i => (B i : Int)
def basisR (q : Bl.Eqs) (ta : TA) (B : Nat → Nat) : Res := Vec 3 1 ta.Ab q.m ta.cb ((basL q B).map (Value.int .i64))
theorem rowsL_len (q : Bl.Eqs) (T : Nat → Nat → Rat) : (rowsL q T).length = q.m := by unfold rowsL; rw [List.length_map, List.length_range]
theorem rowsL_at {q : Bl.Eqs} {T : Nat → Nat → Rat} {i : Nat} (hi : i < q.m) : (rowsL q T).getD i default = (i, T i) := by
  unfold rowsL
  rw [List.getD_eq_getElem?_getD, List.getElem?_map, List.getElem?_range hi]; rfl
theorem rowsL_set {q : Bl.Eqs} {T : Nat → Nat → Rat} {i : Nat} {f : Nat → Rat} : (rowsL q T).set i (i, f) = rowsL q (fun a => if a = i then f else T a) := by
  refine List.ext_getElem? fun j => ?_
  unfold rowsL
  rw [List.getElem?_set, List.getElem?_map, List.length_map, List.length_range, List.getElem?_map]
  by_cases hj : j < q.m
  · rw [List.getElem?_range hj]
    by_cases h : i = j
    · subst h; rw [if_pos rfl, if_pos hj]; show some (i, f) = some (i, if i = i then f else T i); rw [if_pos rfl]
    · rw [if_neg h]; show some (j, T j) = some (j, if j = i then f else T j); rw [if_neg (Ne.symm h)]
  · rw [List.getElem?_eq_none (by rw [List.length_range]; omega)]
    split
    · rw [if_neg (by omega)]; rfl
    · rfl
theorem basL_len (q : Bl.Eqs) (B : Nat → Nat) : (basL q B).length = q.m := by unfold basL; rw [List.length_map, List.length_range]
theorem basL_at {q : Bl.Eqs} {B : Nat → Nat} {i : Nat} (hi : i < q.m) : (basL q B).getD i default = (B i : Int) := by
  unfold basL
  rw [List.getD_eq_getElem?_getD, List.getElem?_map, List.getElem?_range hi]; rfl
theorem basL_set {q : Bl.Eqs} {B : Nat → Nat} {i e : Nat} : (basL q B).set i (e : Int) = basL q (fun a => if a = i then e else B a) := by
  refine List.ext_getElem? fun j => ?_
  unfold basL
  rw [List.getElem?_set, List.getElem?_map, List.length_map, List.length_range, List.getElem?_map]
  by_cases hj : j < q.m
  · rw [List.getElem?_range hj]
    by_cases h : i = j
    · subst h; rw [if_pos rfl, if_pos hj]; show some (e : Int) = some (((if i = i then e else B i) : Nat) : Int); rw [if_pos rfl]
    · rw [if_neg h]; show some (B j : Int) = some (((if j = i then e else B j) : Nat) : Int); rw [if_neg (Ne.symm h)]
  · rw [List.getElem?_eq_none (by rw [List.length_range]; omega)]
    split
    · rw [if_neg (by omega)]; rfl
    · rfl
def upd2 (T : Nat → Nat → Rat) (i k : Nat) (z : Rat) : Nat → Nat → Rat := fun a => if a = i then updF (T i) k z else T a
section
variable {C : Cx} {e : Env} {I : PH} {R : List Res} {K : Act → World → Prop} {Q : Exit → Act → World → Prop} {t ty : TypeId} {pos : String} {after : Array Edge} {g : Option (Nat × Bool)} {x y : Operand} {q : Bl.Eqs} {ta : TA} {T : Nat → Nat → Rat} {i kk : Nat}
theorem num_rds {W : World} (k : Nat) (hk : nthL R k = some (trowsR q ta T)) (hi : i < q.m) (hkk : kk < q.N + 1) : Rds W I R ((ad (ta.ra i).1).add (kk * 2)) (ratC (T i kk)) := by
  have := Rds.rowN (W := W) (I := I) (R := R) (f := ratC) (r := rowF q ta) (bs := rowsL q T) (j := i) (sz := 2) (l := rl (q.N + 1) (T i)) (i := kk) (A := (ta.ra i).1) (n := q.N + 1) (c := (ta.ra i).2) (el := 24) k ratC_len hk (by rw [rowsL_len]; exact hi) (by rw [rowsL_at hi]; rfl) (by rw [rl_len]; exact hkk)
  rwa [rl_at _ hkk] at this
theorem Nx.store_num (k : Nat) {z : Rat} (hx : evo e x = some (.pointer (some ((ad (ta.ra i).1).add (kk * 2))))) (hy : evo e y = some (ratV z)) (hn : Go.Eng.cellsIn C.P t = some 2) (hk : nthL R k = some (trowsR q ta T)) (hi : i < q.m) (hkk : kk < q.N + 1)
    (h : Nx C e I (trowsR q ta (upd2 T i kk z) :: R.eraseIdx k) K) : Nx C e I R (opK C.P ⟨none, .store t x y, ty, pos, after, g⟩ K Q) := by
  refine Nx.store_row2 (f := ratC) (a := fun q => .int .i64 q.num) (b := fun q => .int .i64 q.den) (r := rowF q ta) (bs := rowsL q T) (j := i) (y' := (i, updF (T i) kk z)) (l := rl (q.N + 1) (T i)) (i := kk) (z := z) (A := (ta.ra i).1) (n := q.N + 1) (c := (ta.ra i).2) (el := 24) k hx hy rfl (fun _ => rfl) rfl rfl hn hk (by rw [rowsL_len]; exact hi) (by rw [rowsL_at hi]; rfl) (by rw [rl_set]; rfl) (by rw [rl_len]; exact hkk) hkk ?_
  rw [rowsL_set]
  exact h
end
/-- A row that is divided, up to a column. -/
def T1 (T : Nat → Nat → Rat) (r : Nat) (p : Rat) (k : Nat) : Nat → Nat → Rat := fun a j => if a = r ∧ j < k then T r j / p else T a j
theorem T1_zero (T : Nat → Nat → Rat) (r : Nat) (p : Rat) : T1 T r p 0 = T := by
  funext a j
  unfold T1
  rw [if_neg (by omega)]
theorem T1_succ (T : Nat → Nat → Rat) (r : Nat) (p : Rat) (k : Nat) : upd2 (T1 T r p k) r k (T r k / p) = T1 T r p (k + 1) := by
  funext a j
  unfold upd2 updF T1
  by_cases ha : a = r
  · subst ha
    rw [if_pos rfl]
    by_cases hj : j = k
    · subst hj; rw [if_pos rfl, if_pos ⟨rfl, by omega⟩]
    · rw [if_neg hj]
      by_cases hjk : j < k
      · rw [if_pos ⟨rfl, hjk⟩, if_pos ⟨rfl, by omega⟩]
      · rw [if_neg (by omega), if_neg (by omega)]
  · rw [if_neg ha, if_neg (by omega), if_neg (by omega)]
/-- The rows before one are done, and of this one the columns before one. -/
def T2 (T : Nat → Nat → Rat) (N r e i k : Nat) : Nat → Nat → Rat := fun a j => if a = r then (if j < N + 1 then T r j / T r e else T r j) else if (a < i ∨ (a = i ∧ j < k)) ∧ j < N + 1 then T a j - T a e * (T r j / T r e) else T a j
theorem T2_zero (T : Nat → Nat → Rat) (N r e : Nat) : T1 T r (T r e) (N + 1) = T2 T N r e 0 0 := by
  funext a j
  unfold T1 T2
  by_cases ha : a = r
  · subst ha
    rw [if_pos rfl]
    by_cases hj : j < N + 1
    · rw [if_pos ⟨rfl, hj⟩, if_pos hj]
    · rw [if_neg (by omega), if_neg hj]
  · rw [if_neg (by omega), if_neg ha, if_neg (by omega)]
theorem T2_succ (T : Nat → Nat → Rat) {N r e i k : Nat} (hi : i ≠ r) (hk : k < N + 1) : upd2 (T2 T N r e i k) i k (T i k - T i e * (T r k / T r e)) = T2 T N r e i (k + 1) := by
  funext a j
  unfold upd2 updF T2
  by_cases ha : a = i
  · subst ha
    rw [if_pos rfl, if_neg hi, if_neg hi]
    by_cases hj : j = k
    · subst hj; rw [if_pos rfl, if_pos ⟨.inr ⟨rfl, by omega⟩, hk⟩]
    · rw [if_neg hj]
      by_cases hjk : j < k
      · rw [if_pos ⟨.inr ⟨rfl, hjk⟩, by omega⟩, if_pos ⟨.inr ⟨rfl, by omega⟩, by omega⟩]
      · rw [if_neg (by omega), if_neg (by omega)]
  · rw [if_neg ha]
    by_cases har : a = r
    · rw [if_pos har, if_pos har]
    · rw [if_neg har, if_neg har]
      by_cases hai : a < i ∧ j < N + 1
      · rw [if_pos ⟨.inl hai.1, hai.2⟩, if_pos ⟨.inl hai.1, hai.2⟩]
      · rw [if_neg (by omega), if_neg (by omega)]
theorem T2_row (T : Nat → Nat → Rat) {N r e i : Nat} : T2 T N r e i (N + 1) = T2 T N r e (i + 1) 0 := by
  funext a j
  unfold T2
  by_cases har : a = r
  · rw [if_pos har, if_pos har]
  · rw [if_neg har, if_neg har]
    by_cases h : (a < i ∨ a = i) ∧ j < N + 1
    · rw [if_pos ⟨h.1.elim .inl fun h1 => .inr ⟨h1, h.2⟩, h.2⟩, if_pos ⟨.inl (by omega), h.2⟩]
    · rw [if_neg (by omega), if_neg (by omega)]
theorem T2_skip (T : Nat → Nat → Rat) {N r e i : Nat} (h : i = r ∨ T i e = 0) : T2 T N r e i 0 = T2 T N r e (i + 1) 0 := by
  funext a j
  unfold T2
  by_cases har : a = r
  · rw [if_pos har, if_pos har]
  · rw [if_neg har, if_neg har]
    by_cases hai : a = i
    · subst hai
      have h0 : T a e = 0 := h.resolve_left har
      rw [if_neg (by omega)]
      split
      · rw [h0]; grind
      · rfl
    · by_cases h1 : a < i ∧ j < N + 1
      · rw [if_pos ⟨.inl h1.1, h1.2⟩, if_pos ⟨.inl (by omega), h1.2⟩]
      · rw [if_neg (by omega), if_neg (by omega)]
theorem rows_congr {q : Bl.Eqs} {ta : TA} {T T' : Nat → Nat → Rat} (h : ∀ i j, i < q.m → j < q.N + 1 → T i j = T' i j) : trowsR q ta T = trowsR q ta T' := by
  unfold trowsR rowsL
  rw [List.map_map, List.map_map]
  congr 1
  refine List.map_congr_left fun i hi => ?_
  show rowF q ta (i, T i) = rowF q ta (i, T' i)
  unfold rowF
  rw [rl_congr (f := T i) (g := T' i) fun j hj => h i j (List.mem_range.1 hi) hj]
theorem T2_end {q : Bl.Eqs} {ta : TA} {s : Bl.Tab} {r e : Nat} : trowsR q ta (T2 s.T q.N r e q.m 0) = trowsR q ta (Bl.piv s r e).T := rows_congr fun i j hi hj => by
  unfold T2
  rw [Bl.piv_T]
  by_cases hir : i = r
  · rw [if_pos hir, if_pos hj, if_pos hir]
  · rw [if_neg hir, if_pos ⟨.inl hi, hj⟩, if_neg hir]
set_option maxRecDepth 10000 in
set_option maxHeartbeats 16000000 in
theorem pivot_spec (b : Nat) (q : Bl.Eqs) (hq : q.Small) (ta : TA) (s : Bl.Tab) (hs : Bl.Inv q s) (r e : Nat) (hr : r < q.m) (he : e < q.cnt) (hne : s.T r e ≠ 0) (hs' : Bl.Inv q (Bl.piv s r e)) (vc : Value) (I : PH) (hT : TabI I)
    (ho : SliceOf (fun i : Nat => Value.slice (ta.ra i).1 (q.N + 1) (ta.ra i).2) I ta.Ar ta.cr (List.range q.m)) (hra : ∀ i, i < q.m → (ta.ra i).1.isSome = true) (hAb : ta.Ab.isSome = true) :
    FnSpec Tryz.prog 155 [.pointer (some ⟨b, 0, none⟩), .int .i64 (r : Int), .int .i64 (e : Int)] I [Blk b 193 (tabV q ta vc), basisR q ta s.B, trowsR q ta s.T]
      (fun _ R' => R' = [Blk b 193 (tabV q ta vc), basisR q ta (Bl.piv s r e).B, trowsR q ta (Bl.piv s r e).T]) := by
  have h1 := hq.cnt
  have h2 := hq.m
  have hNb : q.N ≤ 20 := by show q.cnt + q.m ≤ 20; omega
  have heN : e < q.N := by show e < q.cnt + q.m; omega
  obtain ⟨D, hD⟩ := hs.num hq
  obtain ⟨D', hD'⟩ := hs'.num hq
  have ror := fun (W : World) (Q : List Res) (i : Nat) (hi : i < q.m) => (by
    have := ho.rd (W := W) (R := Q) (k := i) (by rw [List.length_range]; exact hi)
    rwa [range_getD hi] at this : Rd W I Q ((ad ta.Ar).add (i * 1)) (.slice (ta.ra i).1 (q.N + 1) (ta.ra i).2))
  have hAr : ta.Ar.isSome = true := ho.isSome (by rw [List.length_range]; omega)
  have ro1 := fun (W : World) (Q : List Res) => ror W Q r hr
  have hrr := hra r hr
  obtain ⟨p, hp⟩ : ∃ p, p = s.T r e := ⟨_, rfl⟩
  have hpe : ∀ {W : World} {R : List Res} (k : Nat), nthL R k = some (trowsR q ta s.T) → Rds W I R ((ad (ta.ra r).1).add (e * 2)) (ratC p) := fun k hk => by rw [hp]; exact num_rds k hk hr (by omega)
  refine FnSpec.enterP Tryz.func155 rfl Tryz.ntmps155 rfl fun w F => ?_
  repeat' first
    | ((with_reducible refine Nx.is_wp ?_); first | refine Nx.wo ?_ | refine Nx.zp (fun hc => ?_) (fun hc => ?_))
    | (refine Nx.zo ?_; first | refine Nx.opr rfl rfl ?_ | refine Nx.indexAddr_nat (A := ta.Ar) (i := r) (sz := 1) rfl rfl rfl rfl rfl hr hAr ?_ | refine Nx.load rfl rfl rfl (ro1 _ _) ?_ | refine Nx.indexAddr_nat (A := (ta.ra r).1) (i := e) (sz := 2) rfl rfl rfl rfl rfl (by omega) hrr ?_ | refine Nx.loads rfl rfl rfl rfl (hpe 2 rfl) rfl ?_ | refine Nx.so ?_ | refine Nx.sb (fun bx => ?_) | refine Nx.sa (fun A2 c2 => ?_))
    | ((with_reducible refine Nx.is_at ?_); first | refine Nx.a ?_ | refine Nx.zd ?_ | refine Nx.zs (fun hc => ?_) (fun hc => ?_))
    | ((with_reducible refine Nx.is_mix ?_); first | refine Nx.m ?_ | refine Nx.zm ?_ | refine Nx.zt (fun hc => ?_) (fun hc => ?_))
    | refine Nx.zx ?_ | fail
  revert bx; intro b6
  have hpne : p ≠ 0 := by rw [hp]; exact hne
  have hRBp : RB p := by rw [hp]; exact hD.rb hr (by omega)
  refine Nx.p_loop (σ := Nat) (fun k => [(0, .pointer (some ⟨b, 0, none⟩)), (1, .int .i64 (r : Int)), (2, .int .i64 (e : Int)), (6, .pointer (some ⟨b6, 0, none⟩)), (30, .slice (ta.ra r).1 (q.N + 1) (ta.ra r).2), (31, .int .i64 ((q.N + 1 : Nat) : Int)), (32, .int .i64 (k : Int))])
    (fun k => [Blk b6 24 (ratC p), trowsR q ta (T1 s.T r p k), Blk b 193 (tabV q ta vc), basisR q ta s.B, F]) (fun k => k ≤ q.N + 1) (fun k => q.N + 1 - k) 0 rfl (Nat.zero_le _) ⟨rfl, rfl, rfl, rfl, rfl, rfl, rfl, trivial⟩ (by rw [T1_zero]; (exact Ent.auto)) ?_
  intro k hk
  have hk : k ≤ q.N + 1 := hk
  by_cases hkN : k < q.N + 1
  · obtain ⟨xk, hxk⟩ : ∃ xk, xk = s.T r k := ⟨_, rfl⟩
    obtain ⟨qk, hqk⟩ : ∃ qk, qk = xk / p := ⟨_, rfl⟩
    have hxe : ∀ (W : World) (R : List Res) (j : Nat), nthL R j = some (trowsR q ta (T1 s.T r p k)) → Rds W I R ((ad (ta.ra r).1).add (k * 2)) (ratC xk) := fun W R j hj => by
      have := num_rds (W := W) (I := I) j hj hr hkN
      rw [show T1 s.T r p k r k = xk by rw [hxk]; unfold T1; rw [if_neg (by omega)]] at this
      exact this
    have hM := bover_spec xk p (by rw [hxk]; exact hD.rb hr (by omega)) hRBp hpne (by rw [hxk, hp]; exact hD.rbq hr hr (by omega) heN hne) I hT
    rw [← hqk] at hM
    have hup := T1_succ s.T r p k
    rw [← hxk, ← hqk] at hup
    repeat' first
      | ((with_reducible refine Nx.is_wp ?_); first | refine Nx.wo ?_ | refine Nx.p_drawF (id := 4) rfl [0, 1, 2, 3, 4, 5, 6, 7, 8, 9, 10, 11] [10] [12] _ rfl rfl (by kernel_rfl) (by kernel_rfl) rfl (by repeat first | exact PanicOk.fn | refine PanicOk.then_ ?_ | refine PanicOk.inB ?_) (Ent.refl _) ?_ | refine Nx.p_drawF (id := 14) rfl [0, 1, 2, 3, 4, 5, 6, 7, 8, 9, 10] [8, 9] [11] _ rfl rfl (by kernel_rfl) (by kernel_rfl) rfl (by repeat first | exact PanicOk.fn | refine PanicOk.then_ ?_ | refine PanicOk.inB ?_) (Ent.refl _) ?_ | refine Nx.zp (fun hc => ?_) (fun hc => ?_))
      | (refine Nx.zo ?_; first | refine Nx.opr rfl rfl ?_ | refine Nx.indexAddr_nat (A := (ta.ra r).1) (i := k) (sz := 2) rfl rfl rfl rfl rfl hkN hrr ?_ | refine Nx.loads rfl rfl rfl rfl (hxe _ _ 1 rfl) rfl ?_ | refine Nx.callv rfl rfl rfl (by kernel_rfl) rfl hM ?_ | refine Nx.store_num 2 rfl rfl rfl rfl hr hkN ?_ | refine Nx.so ?_ | refine Nx.sb (fun bx => ?_) | refine Nx.sa (fun A2 c2 => ?_))
      | ((with_reducible refine Nx.is_at ?_); first | refine Nx.a ?_ | refine Nx.zd ?_ | refine Nx.zs (fun hc => ?_) (fun hc => ?_))
      | ((with_reducible refine Nx.is_mix ?_); first | refine Nx.m_quiet rfl rfl rfl rfl rfl (by first | exact QRun.opr rfl | exact QRun.idx (A := ta.Ar) (i := r) (sz := 1) rfl rfl rfl rfl hr hAr | exact QRun.load rfl rfl (ro1 _ _) | exact QRun.loads rfl rfl rfl (Rds.cut 0 2 rfl rfl) rfl | exact QRun.loads rfl rfl rfl (Rds.cut 1 2 rfl rfl) rfl | exact QRun.idx (A := (ta.ra r).1) (i := k) (sz := 2) rfl rfl rfl rfl hkN hrr) ?_ | refine Nx.m_quiet_do rfl rfl rfl rfl rfl rfl rfl (by first | exact QRun.opr rfl | exact QRun.idx (A := ta.Ar) (i := r) (sz := 1) rfl rfl rfl rfl hr hAr | exact QRun.load rfl rfl (ro1 _ _) | exact QRun.loads rfl rfl rfl (Rds.cut 0 2 rfl rfl) rfl | exact QRun.loads rfl rfl rfl (Rds.cut 1 2 rfl rfl) rfl | exact QRun.idx (A := (ta.ra r).1) (i := k) (sz := 2) rfl rfl rfl rfl hkN hrr) ?_ | refine Nx.m ?_ | refine Nx.zm ?_ | refine Nx.zt (fun hc => ?_) (fun hc => ?_))
      | refine Nx.zx ?_ | fail
    exact Nx.again (k + 1) hkN (by omega) ⟨rfl, rfl, rfl, rfl, rfl, rfl, rfl, trivial⟩ (by rw [← hup]; (exact Ent.auto))
  obtain rfl : k = q.N + 1 := by omega
  rw [hp, T2_zero, ← hp]
  clear hpe hRBp
  repeat' first
    | ((with_reducible refine Nx.is_wp ?_); first | refine Nx.wo ?_ | refine Nx.zp (fun hc => ?_) (fun hc => ?_))
    | (refine Nx.zo ?_; first | refine Nx.opr rfl rfl ?_ | refine Nx.so ?_ | refine Nx.sb (fun bx => ?_) | refine Nx.sa (fun A2 c2 => ?_))
    | ((with_reducible refine Nx.is_at ?_); first | refine Nx.a ?_ | refine Nx.zd ?_ | refine Nx.zs (fun hc => ?_) (fun hc => ?_))
    | ((with_reducible refine Nx.is_mix ?_); first | refine Nx.m ?_ | refine Nx.zm ?_ | refine Nx.zt (fun hc => ?_) (fun hc => ?_))
    | refine Nx.zx ?_ | fail
  refine Nx.p_loop (σ := Nat) (fun i => [(0, .pointer (some ⟨b, 0, none⟩)), (1, .int .i64 (r : Int)), (2, .int .i64 (e : Int)), (53, .slice ta.Ar q.m ta.cr), (54, .int .i64 (q.m : Int)), (55, .int .i64 (i : Int))])
    (fun i => [trowsR q ta (T2 s.T q.N r e i 0), Blk b 193 (tabV q ta vc), basisR q ta s.B, F]) (fun i => i ≤ q.m) (fun i => q.m - i) 0 rfl (Nat.zero_le _) ⟨rfl, rfl, rfl, rfl, rfl, rfl, trivial⟩ (by (exact Ent.auto)) ?_
  intro i hi
  have hi : i ≤ q.m := hi
  by_cases him : i < q.m
  case neg =>
    obtain rfl : i = q.m := by omega
    rw [T2_end]
    have hbs : (basL q s.B).set r (e : Int) = basL q (Bl.piv s r e).B := basL_set
    repeat' first
      | ((with_reducible refine Nx.is_wp ?_); first | refine Nx.wo ?_ | refine Nx.zp (fun hc => ?_) (fun hc => ?_))
      | (refine Nx.zo ?_; first | refine Nx.opr rfl rfl ?_ | refine Nx.indexAddr_nat (A := ta.Ab) (i := r) (sz := 1) rfl rfl rfl rfl rfl hr hAb ?_ | refine Nx.store_ints 2 (A := ta.Ab) (i := r) (l := basL q s.B) (z := (e : Int)) rfl rfl rfl rfl hr ?_ | refine Nx.so ?_ | refine Nx.sb (fun bx => ?_) | refine Nx.sa (fun A2 c2 => ?_))
      | ((with_reducible refine Nx.is_at ?_); first | refine Nx.a ?_ | refine Nx.zd ?_ | refine Nx.zs (fun hc => ?_) (fun hc => ?_))
      | ((with_reducible refine Nx.is_mix ?_); first | refine Nx.m ?_ | refine Nx.zm ?_ | refine Nx.zt (fun hc => ?_) (fun hc => ?_))
      | refine Nx.zx ?_ | fail
    refine Nx.end_fn rfl [_, _, _] rfl ?_
    rw [hbs]
    unfold basisR
    (exact Ent.auto)
  have roi := fun (W : World) (Q : List Res) => ror W Q i him
  have hri := hra i him
  obtain ⟨z, hz⟩ : ∃ z, z = T2 s.T q.N r e i 0 i e := ⟨_, rfl⟩
  have hze : ∀ (W : World) (R : List Res) (j : Nat), nthL R j = some (trowsR q ta (T2 s.T q.N r e i 0)) → Rds W I R ((ad (ta.ra i).1).add (e * 2)) (ratC z) := fun W R j hj => by
    have := num_rds (W := W) (I := I) j hj him (show e < q.N + 1 by omega)
    rwa [← hz] at this
  by_cases hir : i = r
  · subst hir
    have hsk := T2_skip s.T (N := q.N) (r := i) (e := e) (i := i) (.inl rfl)
    repeat' first
      | ((with_reducible refine Nx.is_wp ?_); first | refine Nx.wo ?_ | refine Nx.zp (fun hc => ?_) (fun hc => ?_))
      | (refine Nx.zo ?_; first | refine Nx.opr rfl rfl ?_ | refine Nx.indexAddr_nat (A := ta.Ar) (i := i) (sz := 1) rfl rfl rfl rfl rfl him hAr ?_ | refine Nx.load rfl rfl rfl (roi _ _) ?_ | refine Nx.indexAddr_nat (A := (ta.ra i).1) (i := e) (sz := 2) rfl rfl rfl rfl rfl (by omega) hri ?_ | refine Nx.loads rfl rfl rfl rfl (hze _ _ 0 rfl) rfl ?_ | refine Nx.so ?_ | refine Nx.sb (fun bx => ?_) | refine Nx.sa (fun A2 c2 => ?_))
      | ((with_reducible refine Nx.is_at ?_); first | refine Nx.a ?_ | refine Nx.zd ?_ | refine Nx.zs (fun hc => ?_) (fun hc => ?_))
      | ((with_reducible refine Nx.is_mix ?_); first | refine Nx.m ?_ | refine Nx.zm ?_ | refine Nx.zt (fun hc => ?_) (fun hc => ?_))
      | refine Nx.zx ?_ | fail
    exact Nx.again (i + 1) him (by omega) ⟨rfl, rfl, rfl, rfl, rfl, rfl, trivial⟩ (by rw [← hsk]; (exact Ent.auto))
  have hzi : z = s.T i e := by rw [hz]; unfold T2; rw [if_neg hir, if_neg (by omega)]
  by_cases hz0 : z = 0
  · have hsk := T2_skip s.T (N := q.N) (r := r) (e := e) (i := i) (.inr (by rw [← hzi]; exact hz0))
    have hn0 : z.num = 0 := by rw [hz0]; rfl
    repeat' first
      | ((with_reducible refine Nx.is_wp ?_); first | refine Nx.wo ?_ | refine Nx.zp (fun hc => ?_) (fun hc => ?_))
      | (refine Nx.zo ?_; first | refine Nx.opr rfl rfl ?_ | refine Nx.indexAddr_nat (A := ta.Ar) (i := i) (sz := 1) rfl rfl rfl rfl rfl him hAr ?_ | refine Nx.load rfl rfl rfl (roi _ _) ?_ | refine Nx.indexAddr_nat (A := (ta.ra i).1) (i := e) (sz := 2) rfl rfl rfl rfl rfl (by omega) hri ?_ | refine Nx.loads rfl rfl rfl rfl (hze _ _ 0 rfl) rfl ?_ | refine Nx.so ?_ | refine Nx.sb (fun bx => ?_) | refine Nx.sa (fun A2 c2 => ?_))
      | ((with_reducible refine Nx.is_at ?_); first | refine Nx.a ?_ | refine Nx.zd ?_ | refine Nx.zs (fun hc => ?_) (fun hc => ?_))
      | ((with_reducible refine Nx.is_mix ?_); first | refine Nx.m ?_ | refine Nx.zm ?_ | refine Nx.zt (fun hc => ?_) (fun hc => ?_))
      | refine Nx.zx ?_ | fail
    exact Nx.again (i + 1) him (by omega) ⟨rfl, rfl, rfl, rfl, rfl, rfl, trivial⟩ (by rw [← hsk]; (exact Ent.auto))
  have hn0 : z.num ≠ 0 := rat_ne hz0
  have hRBz : RB z := by rw [hzi]; exact hD.rb him (by omega)
  repeat' first
    | ((with_reducible refine Nx.is_wp ?_); first | refine Nx.wo ?_ | refine Nx.zp (fun hc => ?_) (fun hc => ?_))
    | (refine Nx.zo ?_; first | refine Nx.opr rfl rfl ?_ | refine Nx.indexAddr_nat (A := ta.Ar) (i := i) (sz := 1) rfl rfl rfl rfl rfl him hAr ?_ | refine Nx.load rfl rfl rfl (roi _ _) ?_ | refine Nx.indexAddr_nat (A := (ta.ra i).1) (i := e) (sz := 2) rfl rfl rfl rfl rfl (by omega) hri ?_ | refine Nx.loads rfl rfl rfl rfl (hze _ _ 0 rfl) rfl ?_ | refine Nx.indexAddr_nat (A := ta.Ar) (i := r) (sz := 1) rfl rfl rfl rfl rfl hr hAr ?_ | refine Nx.load rfl rfl rfl (ro1 _ _) ?_ | refine Nx.so ?_ | refine Nx.sb (fun bx => ?_) | refine Nx.sa (fun A2 c2 => ?_))
    | ((with_reducible refine Nx.is_at ?_); first | refine Nx.a ?_ | refine Nx.zd ?_ | refine Nx.zs (fun hc => ?_) (fun hc => ?_))
    | ((with_reducible refine Nx.is_mix ?_); first | refine Nx.m ?_ | refine Nx.zm ?_ | refine Nx.zt (fun hc => ?_) (fun hc => ?_))
    | refine Nx.zx ?_ | fail
  revert bx; intro b11
  refine Nx.p_loop (σ := Nat) (fun k => [(0, .pointer (some ⟨b, 0, none⟩)), (1, .int .i64 (r : Int)), (2, .int .i64 (e : Int)), (9, .int .i64 (i : Int)), (10, .slice (ta.ra i).1 (q.N + 1) (ta.ra i).2), (11, .pointer (some ⟨b11, 0, none⟩)), (53, .slice ta.Ar q.m ta.cr), (54, .int .i64 (q.m : Int)), (55, .int .i64 (i : Int)), (78, .slice (ta.ra r).1 (q.N + 1) (ta.ra r).2), (79, .int .i64 ((q.N + 1 : Nat) : Int)), (80, .int .i64 (k : Int))])
    (fun k => [Blk b11 24 (ratC z), trowsR q ta (T2 s.T q.N r e i k), Blk b 193 (tabV q ta vc), basisR q ta s.B, F]) (fun k => k ≤ q.N + 1) (fun k => q.N + 1 - k) 0 rfl (Nat.zero_le _) ⟨rfl, rfl, rfl, rfl, rfl, rfl, rfl, rfl, rfl, rfl, rfl, rfl, trivial⟩ (by (exact Ent.auto)) ?_
  intro k hk
  have hk : k ≤ q.N + 1 := hk
  by_cases hkN : k < q.N + 1
  case neg =>
    obtain rfl : k = q.N + 1 := by omega
    rw [T2_row]
    repeat' first
      | ((with_reducible refine Nx.is_wp ?_); first | refine Nx.wo ?_ | refine Nx.zp (fun hc => ?_) (fun hc => ?_))
      | (refine Nx.zo ?_; first | refine Nx.opr rfl rfl ?_ | refine Nx.so ?_ | refine Nx.sb (fun bx => ?_) | refine Nx.sa (fun A2 c2 => ?_))
      | ((with_reducible refine Nx.is_at ?_); first | refine Nx.a ?_ | refine Nx.zd ?_ | refine Nx.zs (fun hc => ?_) (fun hc => ?_))
      | ((with_reducible refine Nx.is_mix ?_); first | refine Nx.m ?_ | refine Nx.zm ?_ | refine Nx.zt (fun hc => ?_) (fun hc => ?_))
      | refine Nx.zx ?_ | fail
    exact Nx.again (i + 1) him (by omega) ⟨rfl, rfl, rfl, rfl, rfl, rfl, trivial⟩ (by (exact Ent.auto))
  obtain ⟨qk, hqk⟩ : ∃ qk, qk = s.T r k / s.T r e := ⟨_, rfl⟩
  obtain ⟨xk, hxk⟩ : ∃ xk, xk = s.T i k := ⟨_, rfl⟩
  obtain ⟨pr, hpr⟩ : ∃ pr, pr = z * qk := ⟨_, rfl⟩
  obtain ⟨nk, hnk⟩ : ∃ nk, nk = xk - pr := ⟨_, rfl⟩
  have hqe : ∀ (W : World) (R : List Res) (j : Nat), nthL R j = some (trowsR q ta (T2 s.T q.N r e i k)) → Rds W I R ((ad (ta.ra r).1).add (k * 2)) (ratC qk) := fun W R j hj => by
    have := num_rds (W := W) (I := I) j hj hr hkN
    rwa [show T2 s.T q.N r e i k r k = qk by rw [hqk]; unfold T2; rw [if_pos rfl, if_pos hkN]] at this
  have hxe : ∀ (W : World) (R : List Res) (j : Nat), nthL R j = some (trowsR q ta (T2 s.T q.N r e i k)) → Rds W I R ((ad (ta.ra i).1).add (k * 2)) (ratC xk) := fun W R j hj => by
    have := num_rds (W := W) (I := I) j hj him hkN
    rwa [show T2 s.T q.N r e i k i k = xk by rw [hxk]; unfold T2; rw [if_neg hir, if_neg (by omega)]] at this
  have hRq : RB qk := by rw [hqk]; exact hD.rbq hr hr (by omega) heN hne
  have hRp : RB pr := by rw [hpr, hzi, hqk]; exact hD.rbt him hr (by omega) heN hne
  have hRn : RB nk := by
    have : nk = (Bl.piv s r e).T i k := by rw [Bl.piv_T, if_neg hir, hnk, hxk, hpr, hzi, hqk]
    rw [this]; exact hD'.rb him (by omega)
  have hM1 := btimes_spec z qk hRBz hRq (by rw [← hpr]; exact hRp) I hT
  rw [← hpr] at hM1
  have hM2 := bminus_spec xk pr (by rw [hxk]; exact hD.rb him (by omega)) hRp (by rw [← hnk]; exact hRn) I hT
  rw [← hnk] at hM2
  have hup := T2_succ s.T (N := q.N) (r := r) (e := e) (i := i) (k := k) hir hkN
  rw [← hxk, ← hzi, ← hqk, ← hpr, ← hnk] at hup
  clear hqk hxk hpr hnk hRq hRp hRn hze hz
  repeat' first
    | ((with_reducible refine Nx.is_wp ?_); first | refine Nx.wo ?_ | refine Nx.p_drawF (id := 4) rfl [0, 1, 2, 3, 4, 5, 6, 7, 8, 9, 10, 11] [10] [12] _ rfl rfl (by kernel_rfl) (by kernel_rfl) rfl (by repeat first | exact PanicOk.fn | refine PanicOk.then_ ?_ | refine PanicOk.inB ?_) (Ent.refl _) ?_ | refine Nx.p_drawF (id := 14) rfl [0, 1, 2, 3, 4, 5, 6, 7, 8, 9, 10] [8, 9] [11] _ rfl rfl (by kernel_rfl) (by kernel_rfl) rfl (by repeat first | exact PanicOk.fn | refine PanicOk.then_ ?_ | refine PanicOk.inB ?_) (Ent.refl _) ?_ | refine Nx.zp (fun hc => ?_) (fun hc => ?_))
    | (refine Nx.zo ?_; first | refine Nx.opr rfl rfl ?_ | refine Nx.indexAddr_nat (A := (ta.ra r).1) (i := k) (sz := 2) rfl rfl rfl rfl rfl hkN hrr ?_ | refine Nx.loads rfl rfl rfl rfl (hqe _ _ 1 rfl) rfl ?_ | refine Nx.callv rfl rfl rfl (by kernel_rfl) rfl hM1 ?_ | refine Nx.callv rfl rfl rfl (by kernel_rfl) rfl hM2 ?_ | refine Nx.indexAddr_nat (A := (ta.ra i).1) (i := k) (sz := 2) rfl rfl rfl rfl rfl hkN hri ?_ | refine Nx.store_num 2 rfl rfl rfl rfl him hkN ?_ | refine Nx.so ?_ | refine Nx.sb (fun bx => ?_) | refine Nx.sa (fun A2 c2 => ?_))
    | ((with_reducible refine Nx.is_at ?_); first | refine Nx.a ?_ | refine Nx.zd ?_ | refine Nx.zs (fun hc => ?_) (fun hc => ?_))
    | ((with_reducible refine Nx.is_mix ?_); first | refine Nx.m_quiet rfl rfl rfl rfl rfl (by first | exact QRun.opr rfl | exact QRun.idx (A := (ta.ra i).1) (i := k) (sz := 2) rfl rfl rfl rfl hkN hri | exact QRun.loads rfl rfl rfl (hxe _ _ 2 rfl) rfl | exact QRun.loads rfl rfl rfl (Rds.cut 0 2 rfl rfl) rfl | exact QRun.loads rfl rfl rfl (Rds.cut 1 2 rfl rfl) rfl) ?_ | refine Nx.m_quiet_do rfl rfl rfl rfl rfl rfl rfl (by first | exact QRun.opr rfl | exact QRun.idx (A := (ta.ra i).1) (i := k) (sz := 2) rfl rfl rfl rfl hkN hri | exact QRun.loads rfl rfl rfl (hxe _ _ 2 rfl) rfl | exact QRun.loads rfl rfl rfl (Rds.cut 0 2 rfl rfl) rfl | exact QRun.loads rfl rfl rfl (Rds.cut 1 2 rfl rfl) rfl) ?_ | refine Nx.m ?_ | refine Nx.zm ?_ | refine Nx.zt (fun hc => ?_) (fun hc => ?_))
    | refine Nx.zx ?_ | fail
  exact Nx.again (k + 1) hkN (by omega) ⟨rfl, rfl, rfl, rfl, rfl, rfl, rfl, rfl, rfl, rfl, rfl, rfl, trivial⟩ (by rw [← hup]; (exact Ent.auto))
end Go.Proofs.YtpcnapidlhpbkaaGreatDoor
/- Contracts of functions of the given program, and lemmas about plain lists and numbers: what the laws of this seat lean on. -/
namespace Go.Proofs.YtpcnapidlhpbkaaGreatDoor
open Go.Eng
attribute [local irreducible] opK wpList Code.wp Exit.then Exit.inBlock fnPost bodyPost Nx Calls Oper.wp Rd Rds Wr Ent Stars Blk Again Vec FnSpec wpMix QRun Stop Upto wpAt
/-! The walk of a phase -/
theorem tab_mono {I I' : PH} (hle : PH.le I I') (h : TabI I) : TabI I' := fun W w R hw => h W w R (St.imm_le hle hw)
theorem Stars.nth : ∀ {L : List Res} {m : PH} {i : Nat} {r : Res}, Stars L m → L[i]? = some r → ∃ m', PH.le m' m ∧ r m' := fun h hi => Stars.get _ h (nthL_eq.trans hi)
theorem tabq_of {q : Bl.Eqs} {ta : TA} {s : Bl.Tab} {m I' : PH} (hm : PH.le m I') (h : Stars [basisR q ta s.B, trowsR q ta s.T] m) (ho : SliceOf (fun i : Nat => Value.slice (ta.ra i).1 (q.N + 1) (ta.ra i).2) I' ta.Ar ta.cr (List.range q.m)) : TabQ I' q ta s := by
  obtain ⟨m1, d1, h1⟩ := Stars.get 0 h rfl
  obtain ⟨m2, d2, h2⟩ := Stars.get 1 h rfl
  refine ⟨ho, fun i hi => ?_, ?_⟩
  · obtain ⟨m3, d3, h3⟩ := Stars.nth (i := i) h2 (by rw [List.getElem?_map]; unfold rowsL; rw [List.getElem?_map, List.getElem?_range hi]; rfl)
    have h3 : Vec 24 2 (ta.ra i).1 (q.N + 1) (ta.ra i).2 ((rl (q.N + 1) (s.T i)).flatMap ratC) m3 := h3
    exact Vec.sliceN (t := 24) (l := rl (q.N + 1) (s.T i)) ((d3.trans d2).trans hm) (by rw [rl_len]; exact h3) fun _ _ => rfl
  · have h1 : Vec 3 1 ta.Ab q.m ta.cb ((basL q s.B).map (Value.int .i64)) m1 := h1
    refine Vec.sliceOf (t := 3) (d1.trans hm) ?_
    rw [List.length_range]
    unfold basL at h1
    rw [List.map_map] at h1
    exact h1
set_option maxRecDepth 10000 in
set_option maxHeartbeats 8000000 in
theorem improve_spec (b : Nat) (q : Bl.Eqs) (hq : q.Small) (ta : TA) (s0 : Bl.Tab) (hs0 : Bl.Inv q s0) (c : Nat → Int) (hc : ∀ k, (c k).natAbs ≤ 1) (Ac : Option Addr) (cc : Nat) (I : PH) (hT : TabI I) (hcost : Rats I Ac cc (rl q.N (Bl.cst c)))
    (ho : SliceOf (fun i : Nat => Value.slice (ta.ra i).1 (q.N + 1) (ta.ra i).2) I ta.Ar ta.cr (List.range q.m)) (hra : ∀ i, i < q.m → (ta.ra i).1.isSome = true) (hAb : 0 < q.m → ta.Ab.isSome = true) :
    FnSpec Tryz.prog 111 [.pointer (some ⟨b, 0, none⟩), .func (.func 112) #[.pointer (some ⟨b, 0, none⟩)] #[], .func (.func 113) #[.pointer (some ⟨b, 0, none⟩)] #[]] I
      [Blk b 193 (tabV q ta (.slice Ac q.N cc)), basisR q ta s0.B, trowsR q ta s0.T]
      (fun v R' => ∃ (s' : Bl.Tab) (bo : Bool), v = .bool bo ∧ Bl.Run q.m q.N q.cnt (Bl.cst c) s0 s' bo ∧ R' = [Blk b 193 (tabV q ta (.slice Ac q.N cc)), basisR q ta s'.B, trowsR q ta s'.T]) := by
  have h1 := hq.cnt
  have h2 := hq.m
  refine FnSpec.enterP Tryz.func111 rfl Tryz.ntmps111 rfl fun w F => ?_
  repeat' first
    | ((with_reducible refine Nx.is_wp ?_); first | refine Nx.wo ?_ | refine Nx.zp (fun hc => ?_) (fun hc => ?_))
    | (refine Nx.zo ?_; first | refine Nx.opr rfl rfl ?_ | refine Nx.so ?_ | refine Nx.sb (fun bx => ?_) | refine Nx.sa (fun A2 c2 => ?_))
    | ((with_reducible refine Nx.is_at ?_); first | refine Nx.a ?_ | refine Nx.zd ?_ | refine Nx.zs (fun hc => ?_) (fun hc => ?_))
    | ((with_reducible refine Nx.is_mix ?_); first | refine Nx.m ?_ | refine Nx.zm ?_ | refine Nx.zt (fun hc => ?_) (fun hc => ?_))
    | refine Nx.zx ?_ | fail
  refine Nx.p_loop (σ := Nat × Bl.Tab) (fun _ => [(0, .pointer (some ⟨b, 0, none⟩)), (1, .func (.func 112) #[.pointer (some ⟨b, 0, none⟩)] #[]), (2, .func (.func 113) #[.pointer (some ⟨b, 0, none⟩)] #[])])
    (fun z => [Blk b 193 (tabV q ta (.slice Ac q.N cc)), basisR q ta z.2.B, trowsR q ta z.2.T, F]) (fun z => Bl.Gone q.m q.N q.cnt (Bl.cst c) s0 z.2 z.1 ∧ Bl.Inv q z.2) (fun z => q.N ^ q.m - z.1) (0, s0) rfl ⟨Bl.Gone.zero s0, hs0⟩ ⟨rfl, rfl, rfl, trivial⟩ (by (exact Ent.auto)) ?_
  rintro ⟨k, s⟩ ⟨hgone, hs⟩
  dsimp only at hgone hs ⊢
  have hlt := hgone.lt (show q.cnt ≤ q.cnt + q.m by omega) hs0.ok
  have hEn := fun (m I' : PH) (hle : PH.le I I') (hm : PH.le m I') (hv : Stars [basisR q ta s.B, trowsR q ta s.T] m) => enter_spec b q hq ta s hs c hc Ac cc I' (tab_mono hle hT) (tabq_of hm hv (ho.mono hle)) (hcost.mono hle)
  have hLv := fun (e : Nat) (he : e < q.cnt) (m I' : PH) (hle : PH.le I I') (hm : PH.le m I') (hv : Stars [basisR q ta s.B, trowsR q ta s.T] m) => leave_spec b q hq ta s hs (.slice Ac q.N cc) I' (tab_mono hle hT) (tabq_of hm hv (ho.mono hle)) e he
  have hPv := fun (e r : Nat) (he : Bl.Ent q.m q.cnt (Bl.cst c) s e) (hl : Bl.Lea q.m q.N s e r) => pivot_spec b q hq ta s hs r e hl.lt he.lt (by have := hl.pos; grind) (hs.step he hl) (.slice Ac q.N cc) I hT ho hra (hAb (by have := hl.lt; omega))
  repeat' first
    | ((with_reducible refine Nx.is_wp ?_); first | refine Nx.wo ?_ | refine Nx.zp (fun hc => ?_) (fun hc => ?_))
    | (refine Nx.zo ?_; first | refine Nx.opr rfl rfl ?_ | (refine Nx.call rfl rfl rfl (by kernel_rfl) rfl (FnSpec.keep [basisR q ta s.B, trowsR q ta s.T] hEn) (by (exact Ent.auto)) ?_; rintro _ _ ⟨_, ⟨⟨rfl, hg⟩ | ⟨e, rfl, he⟩, rfl⟩, rfl⟩) | (refine Nx.call rfl rfl rfl (by kernel_rfl) rfl (FnSpec.keep [basisR q ta s.B, trowsR q ta s.T] (hLv e he.lt)) (by (exact Ent.auto)) ?_; rintro _ _ ⟨_, ⟨⟨rfl, hnl⟩ | ⟨r, rfl, hl⟩, rfl⟩, rfl⟩) | (refine Nx.call rfl rfl rfl (by kernel_rfl) rfl (hPv e r he hl) (by (exact Ent.auto)) ?_; rintro _ _ rfl) | refine Nx.so ?_ | refine Nx.sb (fun bx => ?_) | refine Nx.sa (fun A2 c2 => ?_))
    | ((with_reducible refine Nx.is_at ?_); first | refine Nx.a ?_ | refine Nx.zd ?_ | refine Nx.zs (fun hc => ?_) (fun hc => ?_))
    | ((with_reducible refine Nx.is_mix ?_); first | refine Nx.m ?_ | refine Nx.zm ?_ | refine Nx.zt (fun hc => ?_) (fun hc => ?_))
    | refine Nx.zx ?_ | fail
  · exact Nx.ret_fn rfl [_, _, _] ⟨s, true, rfl, hgone.run (.opt hg), rfl⟩ (by (exact Ent.auto))
  · exact Nx.ret_fn rfl [_, _, _] ⟨s, false, rfl, hgone.run (.unb he hnl), rfl⟩ (by (exact Ent.auto))
  · exact Nx.again (k + 1, Bl.piv s r e) ⟨hgone.next he hl, hs.step he hl⟩ (by dsimp only; omega) ⟨rfl, rfl, rfl, trivial⟩ (by (exact Ent.auto))
end Go.Proofs.YtpcnapidlhpbkaaGreatDoor
/- Contracts of functions of the given program, and lemmas about plain lists and numbers: what the laws of this seat lean on. -/
namespace Go.Proofs.YtpcnapidlhpbkaaGreatDoor
open Go.Eng
attribute [local irreducible] opK wpList Code.wp Exit.then Exit.inBlock fnPost bodyPost Nx Calls Oper.wp Rd Rds Wr Ent Stars Blk Again Vec FnSpec wpMix QRun Stop Upto wpAt
/-! Spaces: the sizes l, each 1..8, at most four, at most 48 cells -/
def prod (l : List Int) : Int := l.foldl (· * ·) 1
theorem prod_succ (l : List Int) (k : Nat) (hk : k < l.length) : prod (l.take (k + 1)) = prod (l.take k) * l.getD k default := by
  unfold prod
  rw [List.take_succ_eq_append_getElem hk, List.foldl_append]
  simp [List.getD_eq_getElem?_getD, List.getElem?_eq_getElem hk]
structure Sizes (l : List Int) : Prop where
  dims : 1 ≤ l.length ∧ l.length ≤ 4
  each : ∀ x ∈ l, 1 ≤ x ∧ x ≤ 8
  cells : prod l ≤ 48
theorem Sizes.at {l : List Int} (h : Sizes l) {k : Nat} (hk : k < l.length) : 1 ≤ l.getD k default ∧ l.getD k default ≤ 8 := h.each _ (by rw [List.getD_eq_getElem?_getD, List.getElem?_eq_getElem hk]; exact List.getElem_mem _)
theorem Sizes.some {l : List Int} (h : Sizes l) : ∀ k, k ≤ l.length → 1 ≤ prod (l.take k) ∧ prod (l.take k) ≤ 8 ^ k
  | 0, _ => by simp [prod]
  | k + 1, hk => by
    have ih := h.some k (by omega)
    have hx := h.at (k := k) (by omega)
    rw [prod_succ l k (by omega)]
    refine ⟨?_, ?_⟩
    · have := Int.mul_le_mul ih.1 hx.1 (by omega) (by omega)
      omega
    · rw [Int.pow_succ]
      exact Int.mul_le_mul ih.2 hx.2 (by omega) (by omega)
theorem Sizes.bound {l : List Int} (h : Sizes l) {k : Nat} (hk : k ≤ l.length) : 1 ≤ prod (l.take k) ∧ prod (l.take k) ≤ 4096 := by
  have h1 := h.some k hk
  refine ⟨h1.1, Int.le_trans h1.2 ?_⟩
  have hd := h.dims
  have : k = 0 ∨ k = 1 ∨ k = 2 ∨ k = 3 ∨ k = 4 := by omega
  rcases this with rfl | rfl | rfl | rfl | rfl <;> decide
set_option maxHeartbeats 2000000 in
set_option maxRecDepth 10000 in
theorem RCheck_spec (A : Option Addr) (c : Nat) (l : List Int) (I : PH) (hl : Ints I A c l) (hs : Sizes l) :
    FnSpec Tryz.prog 65 [.agg #[.slice A l.length c]] I [] (fun v R' => v = .int .i64 0 ∧ R' = []) := by
  have hlen := hl.len
  have hd := hs.dims
  refine FnSpec.enterP Tryz.func65 rfl Tryz.ntmps65 rfl fun w F => ?_
  repeat' first
    | ((with_reducible refine Nx.is_wp ?_); first | refine Nx.wo ?_ | refine Nx.zp (fun hc => ?_) (fun hc => ?_))
    | (refine Nx.zo ?_; first | refine Nx.opr rfl rfl ?_ | refine Nx.so ?_ | refine Nx.sb (fun bx => ?_) | refine Nx.sa (fun A2 c2 => ?_))
    | ((with_reducible refine Nx.is_at ?_); first | refine Nx.a ?_ | refine Nx.zd ?_ | refine Nx.zs (fun hc => ?_) (fun hc => ?_))
    | ((with_reducible refine Nx.is_mix ?_); first | refine Nx.m ?_ | refine Nx.zm ?_ | refine Nx.zt (fun hc => ?_) (fun hc => ?_))
    | refine Nx.zx ?_ | fail
  refine Nx.p_loop (σ := Nat) (fun k => [(17, .slice A l.length c), (18, .int .i64 l.length), (19, .int .i64 (k : Int)), (3, .int .i64 (prod (l.take k)))])
    (fun _ => [F]) (fun k => k ≤ l.length) (fun k => l.length - k) 0 rfl (Nat.zero_le _) ⟨rfl, rfl, rfl, rfl, trivial⟩ (by (exact Ent.auto)) ?_
  intro k hk
  have hb := hs.bound hk
  have hb1 : k < l.length → prod (l.take k) * l.getD k default ≤ 4096 ∧ 1 ≤ prod (l.take k) * l.getD k default := fun h => by rw [← prod_succ l k h]; exact (hs.bound (by omega)).symm
  have hx : k < l.length → 1 ≤ l.getD k default ∧ l.getD k default ≤ 8 := fun h => hs.at h
  have hf : l.length ≤ k → prod (l.take k) ≤ 48 := fun h => by rw [List.take_of_length_le h]; exact hs.cells
  repeat' first
    | ((with_reducible refine Nx.is_wp ?_); first | refine Nx.wo ?_ | refine Nx.zp (fun hc => ?_) (fun hc => ?_))
    | (refine Nx.zo ?_; first | refine Nx.opr rfl rfl ?_ | refine Nx.indexAddr_nat rfl rfl rfl rfl rfl (by omega) (hl.isSome (by omega)) ?_ | refine Nx.load rfl rfl rfl (hl.rd (by omega)) ?_ | refine Nx.so ?_ | refine Nx.sb (fun bx => ?_) | refine Nx.sa (fun A2 c2 => ?_))
    | ((with_reducible refine Nx.is_at ?_); first | refine Nx.a ?_ | refine Nx.zd ?_ | refine Nx.zs (fun hc => ?_) (fun hc => ?_))
    | ((with_reducible refine Nx.is_mix ?_); first | refine Nx.m ?_ | refine Nx.zm ?_ | refine Nx.zt (fun hc => ?_) (fun hc => ?_))
    | refine Nx.zx ?_ | fail
  · exact Nx.again (k + 1) (by omega) (by omega) ⟨rfl, rfl, rfl, by rw [prod_succ l k (by omega)]; rfl, trivial⟩ (Ent.refl _)
  · exact Nx.ret_fn rfl [] ⟨rfl, rfl⟩ (Ent.refl _)
set_option maxHeartbeats 2000000 in
set_option maxRecDepth 10000 in
theorem RCount_spec (A : Option Addr) (c : Nat) (l : List Int) (I : PH) (hl : Ints I A c l) (hs : Sizes l) :
    FnSpec Tryz.prog 21 [.agg #[.slice A l.length c]] I [] (fun v R' => v = .int .i64 (prod l) ∧ R' = []) := by
  have hlen := hl.len
  refine FnSpec.enterP Tryz.func21 rfl Tryz.ntmps21 rfl fun w F => ?_
  repeat' first
    | ((with_reducible refine Nx.is_wp ?_); first | refine Nx.wo ?_ | refine Nx.zp (fun hc => ?_) (fun hc => ?_))
    | (refine Nx.zo ?_; first | refine Nx.opr rfl rfl ?_ | refine Nx.callv rfl rfl rfl (by kernel_rfl) rfl (RCheck_spec _ _ _ _ hl hs) ?_ | refine Nx.so ?_ | refine Nx.sb (fun bx => ?_) | refine Nx.sa (fun A2 c2 => ?_))
    | ((with_reducible refine Nx.is_at ?_); first | refine Nx.a ?_ | refine Nx.zd ?_ | refine Nx.zs (fun hc => ?_) (fun hc => ?_))
    | ((with_reducible refine Nx.is_mix ?_); first | refine Nx.m ?_ | refine Nx.zm ?_ | refine Nx.zt (fun hc => ?_) (fun hc => ?_))
    | refine Nx.zx ?_ | fail
  refine Nx.p_loop (σ := Nat) (fun k => [(10, .slice A l.length c), (11, .int .i64 l.length), (12, .int .i64 (k : Int)), (3, .int .i64 (prod (l.take k)))])
    (fun _ => [F]) (fun k => k ≤ l.length) (fun k => l.length - k) 0 rfl (Nat.zero_le _) ⟨rfl, rfl, rfl, rfl, trivial⟩ (by (exact Ent.auto)) ?_
  intro k hk
  have hb := hs.bound hk
  have hb1 : k < l.length → prod (l.take k) * l.getD k default ≤ 4096 ∧ 1 ≤ prod (l.take k) * l.getD k default := fun h => by rw [← prod_succ l k h]; exact (hs.bound (by omega)).symm
  repeat' first
    | ((with_reducible refine Nx.is_wp ?_); first | refine Nx.wo ?_ | refine Nx.zp (fun hc => ?_) (fun hc => ?_))
    | (refine Nx.zo ?_; first | refine Nx.opr rfl rfl ?_ | refine Nx.indexAddr_nat rfl rfl rfl rfl rfl (by omega) (hl.isSome (by omega)) ?_ | refine Nx.load rfl rfl rfl (hl.rd (by omega)) ?_ | refine Nx.so ?_ | refine Nx.sb (fun bx => ?_) | refine Nx.sa (fun A2 c2 => ?_))
    | ((with_reducible refine Nx.is_at ?_); first | refine Nx.a ?_ | refine Nx.zd ?_ | refine Nx.zs (fun hc => ?_) (fun hc => ?_))
    | ((with_reducible refine Nx.is_mix ?_); first | refine Nx.m ?_ | refine Nx.zm ?_ | refine Nx.zt (fun hc => ?_) (fun hc => ?_))
    | refine Nx.zx ?_ | fail
  · exact Nx.again (k + 1) (by omega) (by omega) ⟨rfl, rfl, rfl, by rw [prod_succ l k (by omega)]; rfl, trivial⟩ (Ent.refl _)
  · exact Nx.ret_fn rfl [] ⟨by rw [List.take_of_length_le (by omega)], rfl⟩ (Ent.refl _)
end Go.Proofs.YtpcnapidlhpbkaaGreatDoor
/- Contracts of functions of the given program, and lemmas about plain lists and numbers: what the laws of this seat lean on. -/
namespace Go.Proofs.YtpcnapidlhpbkaaGreatDoor
open Go.Eng
attribute [local irreducible] opK wpList Code.wp Exit.then Exit.inBlock fnPost bodyPost Nx Calls Oper.wp Rd Rds Wr Ent Stars Blk Again Vec FnSpec wpMix QRun Stop Upto wpAt
/-! Numbers of cells and their places -/
def numK (l xs : List Int) : Nat → Int
  | 0 => 0
  | k + 1 => numK l xs k * l.getD k default + xs.getD k default
structure InR (l xs : List Int) : Prop where
  len : xs.length = l.length
  each : ∀ k, k < l.length → 0 ≤ xs.getD k default ∧ xs.getD k default < l.getD k default
theorem mul_add_lt {a b p d x : Int} (ha : 0 ≤ a ∧ a < p) (hx : 0 ≤ x ∧ x < d) (hb : b = p * d) : 0 ≤ a * d + x ∧ a * d + x < b := by
  have h1 : 0 ≤ a * d := Int.mul_nonneg ha.1 (by omega)
  have h2 : (a + 1) * d ≤ p * d := Int.mul_le_mul_of_nonneg_right (by omega) (by omega)
  rw [Int.add_mul] at h2
  omega
theorem numK_bound {l xs : List Int} (hx : InR l xs) : ∀ k, k ≤ l.length → 0 ≤ numK l xs k ∧ numK l xs k < prod (l.take k)
  | 0, _ => by simp [numK, prod]
  | k + 1, hk => by
    simp only [numK]
    exact mul_add_lt (numK_bound hx k (by omega)) (hx.each k (by omega)) (prod_succ l k (by omega))
end Go.Proofs.YtpcnapidlhpbkaaGreatDoor
/- Contracts of functions of the given program, and lemmas about plain lists and numbers: what the laws of this seat lean on. -/
namespace Go.Proofs.YtpcnapidlhpbkaaGreatDoor
open Go.Eng
attribute [local irreducible] opK wpList Code.wp Exit.then Exit.inBlock fnPost bodyPost Nx Calls Oper.wp Rd Rds Wr Ent Stars Blk Again Vec FnSpec wpMix QRun Stop Upto wpAt
def contF (l xs : List Int) : Nat → Nat → Int → Int
  | 0, _, m => m
  | r + 1, j, m => contF l xs r (j + 1) (m * l.getD j default + xs.getD j default)
theorem contF_num (l xs : List Int) : ∀ r j, contF l xs r j (numK l xs j) = numK l xs (j + r)
  | 0, j => rfl
  | r + 1, j => by
    have := contF_num l xs r (j + 1)
    simp only [contF]
    rw [show j + (r + 1) = j + 1 + r by omega, ← this]
    rfl
theorem getD_set_ne {xs : List Int} {i j : Nat} {z : Int} (h : i ≠ j) : (xs.set i z).getD j default = xs.getD j default := by
  rw [List.getD_eq_getElem?_getD, List.getD_eq_getElem?_getD, List.getElem?_set_ne h]
theorem getD_set_eq {xs : List Int} {i : Nat} {z : Int} (h : i < xs.length) : (xs.set i z).getD i default = z := by
  rw [List.getD_eq_getElem?_getD, List.getElem?_set_self h]; rfl
theorem contF_set (l xs : List Int) (i : Nat) (z : Int) : ∀ r j m, i < j → contF l (xs.set i z) r j m = contF l xs r j m
  | 0, _, _, _ => rfl
  | r + 1, j, m, h => by
    simp only [contF]
    rw [getD_set_ne (by omega), contF_set l xs i z r (j + 1) _ (by omega)]
structure PlOk (l : List Int) (n : Int) (s : Nat × List Int × Int) : Prop where
  le : s.1 ≤ l.length
  len : s.2.1.length = l.length
  m : 0 ≤ s.2.2 ∧ s.2.2 < prod (l.take s.1)
  each : ∀ i, s.1 ≤ i → i < l.length → 0 ≤ s.2.1.getD i default ∧ s.2.1.getD i default < l.getD i default
  num : contF l s.2.1 (l.length - s.1) s.1 s.2.2 = n
  last : s.1 < l.length → s.2.1.getD (l.length - 1) default = n % l.getD (l.length - 1) default
  first : s.1 = l.length → s.2.2 = n
theorem PlOk.step {l : List Int} {n : Int} {j : Nat} {xs : List Int} {m : Int} (hs : Sizes l) (h : PlOk l n (j + 1, xs, m)) : PlOk l n (j, xs.set j (m % l.getD j default), m / l.getD j default) := by
  have hle : j + 1 ≤ l.length := h.le
  have hlen : xs.length = l.length := h.len
  have hd := hs.at (k := j) (by omega)
  have hm : 0 ≤ m ∧ m < prod (l.take (j + 1)) := h.m
  rw [prod_succ l j (by omega)] at hm
  have hset : (xs.set j (m % l.getD j default)).getD j default = m % l.getD j default := getD_set_eq (by omega)
  refine ⟨by show j ≤ l.length; omega, by simpa using hlen, ⟨Int.ediv_nonneg hm.1 (by omega), Int.ediv_lt_of_lt_mul (by omega) hm.2⟩, fun i h1 h2 => ?_, ?_, fun _ => ?_, fun h1 => ?_⟩
  · show 0 ≤ (xs.set j (m % l.getD j default)).getD i default ∧ (xs.set j (m % l.getD j default)).getD i default < l.getD i default
    by_cases hij : j = i
    · subst hij
      rw [hset]
      exact ⟨Int.emod_nonneg _ (by omega), Int.emod_lt_of_pos _ (by omega)⟩
    · rw [getD_set_ne hij]
      have h1 : j ≤ i := h1
      exact h.each i (by show j + 1 ≤ i; omega) h2
  · show contF l (xs.set j (m % l.getD j default)) (l.length - j) j (m / l.getD j default) = n
    rw [show l.length - j = (l.length - (j + 1)) + 1 by omega]
    simp only [contF]
    rw [hset, contF_set l xs j _ _ _ _ (by omega), show m / l.getD j default * l.getD j default + m % l.getD j default = m by rw [Int.mul_comm]; exact Int.mul_ediv_add_emod m _]
    exact h.num
  · show (xs.set j (m % l.getD j default)).getD (l.length - 1) default = n % l.getD (l.length - 1) default
    by_cases hj : j = l.length - 1
    · have hmn : m = n := h.first (by show j + 1 = l.length; omega)
      rw [← hj, hset, hmn]
    · rw [getD_set_ne hj]
      exact h.last (by show j + 1 < l.length; omega)
  · have h1 : j = l.length := h1
    omega
end Go.Proofs.YtpcnapidlhpbkaaGreatDoor
/- Contracts of functions of the given program, and lemmas about plain lists and numbers: what the laws of this seat lean on. -/
namespace Go.Proofs.YtpcnapidlhpbkaaGreatDoor
open Go.Eng
attribute [local irreducible] opK wpList Code.wp Exit.then Exit.inBlock fnPost bodyPost Nx Calls Oper.wp Rd Rds Wr Ent Stars Blk Again Vec FnSpec wpMix QRun Stop Upto wpAt
/-! Views: the groups of one dimension -/
def numb : List Int → Int → Option Int
  | [], nx => some nx
  | g :: r, nx => if g < -1 ∨ nx < g then none else numb r (if g = nx then nx + 1 else nx)
def numbB (l : List Int) : Bool := match numb l 0 with
  | some n => decide (0 < n)
  | none => false
theorem drop_at {l : List Int} {k : Nat} (hk : k < l.length) : l.drop k = l.getD k default :: l.drop (k + 1) := by
  rw [List.drop_eq_getElem_cons hk]
  simp [List.getD_eq_getElem?_getD, List.getElem?_eq_getElem hk]
end Go.Proofs.YtpcnapidlhpbkaaGreatDoor
/- Contracts of functions of the given program, and lemmas about plain lists and numbers: what the laws of this seat lean on. -/
namespace Go.Proofs.YtpcnapidlhpbkaaGreatDoor
open Go.Eng
attribute [local irreducible] opK wpList Code.wp Exit.then Exit.inBlock fnPost bodyPost Nx Calls Oper.wp Rd Rds Wr Ent Stars Blk Again Vec FnSpec wpMix QRun Stop Upto wpAt
def maxL (l : List Int) : Nat → Int
  | 0 => l.getD 0 default
  | k + 1 => max (maxL l k) (l.getD (k + 1) default)
end Go.Proofs.YtpcnapidlhpbkaaGreatDoor
/- Contracts of functions of the given program, and lemmas about plain lists and numbers: what the laws of this seat lean on. -/
namespace Go.Proofs.YtpcnapidlhpbkaaGreatDoor
open Go.Eng
attribute [local irreducible] opK wpList Code.wp Exit.then Exit.inBlock fnPost bodyPost Nx Calls Oper.wp Rd Rds Wr Ent Stars Blk Again Vec FnSpec wpMix QRun Stop Upto wpAt
/-! slices.IndexFunc, slices.ContainsFunc over a predicate that only computes -/
def outB (x : Int) : Bool := decide (x < 0 ∨ 1000000 < x)
end Go.Proofs.YtpcnapidlhpbkaaGreatDoor
/- Contracts of functions of the given program, and lemmas about plain lists and numbers: what the laws of this seat lean on. -/
namespace Go.Proofs.YtpcnapidlhpbkaaGreatDoor
open Go.Eng
attribute [local irreducible] opK wpList Code.wp Exit.then Exit.inBlock fnPost bodyPost Nx Calls Oper.wp Rd Rds Wr Ent Stars Blk Again Vec FnSpec wpMix QRun Stop Upto wpAt
/-! Views: a list of lists that lies in memory -/
abbrev Row := Option Addr × Nat × List Int
def rowV (r : Row) : Value := .slice r.1 r.2.2.length r.2.1
structure RowsOf (I : PH) (A : Option Addr) (c : Nat) (v : List Row) : Prop where
  outer : SliceOf rowV I A c v
  inner : ∀ r ∈ v, Ints I r.1 r.2.1 r.2.2
theorem RowsOf.at {I : PH} {A : Option Addr} {c : Nat} {v : List Row} (h : RowsOf I A c v) {k : Nat} (hk : k < v.length) : Ints I (v.getD k default).1 (v.getD k default).2.1 (v.getD k default).2.2 :=
  h.inner _ (by rw [List.getD_eq_getElem?_getD, List.getElem?_eq_getElem hk]; exact List.getElem_mem _)
structure Viewed (l : List Int) (v : List Row) : Prop where
  len : v.length = l.length
  each : ∀ k, k < l.length → ((v.getD k default).2.2.length : Int) = l.getD k default ∧ numbB (v.getD k default).2.2 = true
end Go.Proofs.YtpcnapidlhpbkaaGreatDoor
/-
  Solutions of equations in whole numbers that are not negative: all of them, in order, found cell by cell. Plain Lean, with no program in sight.
-/
namespace Go.Sol
/-- An equation: its cells, and their sum. -/
abbrev Eqn := List Nat × Int
def sumC (t : List Int) : List Nat → Int
  | [] => 0
  | c :: cs => t.getD c 0 + sumC t cs
theorem getD_setI {t : List Int} {c d : Nat} {v : Int} (hc : c < t.length) : (t.set c v).getD d 0 = if d = c then v else t.getD d 0 := by
  rw [List.getD_eq_getElem?_getD, List.getElem?_set]
  by_cases h : c = d
  · rw [if_pos h, if_pos h.symm, if_pos hc]; rfl
  · rw [if_neg h, if_neg (Ne.symm h), ← List.getD_eq_getElem?_getD]
theorem sumC_set {t : List Int} {c : Nat} {v : Int} (hc : c < t.length) : ∀ {cs : List Nat}, cs.Nodup → sumC (t.set c v) cs = sumC t cs + if c ∈ cs then v - t.getD c 0 else 0
  | [], _ => by simp [sumC]
  | d :: cs, hn => by
    obtain ⟨h1, h2⟩ := List.nodup_cons.1 hn
    rw [sumC, sumC, sumC_set hc h2, getD_setI hc]
    by_cases hd : d = c
    · subst hd
      rw [if_pos rfl, if_neg h1, if_pos (by simp)]; omega
    · rw [if_neg hd]
      by_cases hm : c ∈ cs
      · rw [if_pos hm, if_pos (by simp [hm])]; omega
      · rw [if_neg hm, if_neg (by simp [hm, Ne.symm hd])]; omega
/-- What is left of an equation's value. -/
def restQ (t : List Int) (q : Eqn) : Int := q.2 - sumC t q.1
/-- How many of its cells are still to be found. -/
def openQ (U : List Nat) (q : Eqn) : Nat := (q.1.filter fun c => decide (c ∈ U)).length
def lowF (t : List Int) (U : List Nat) (c : Nat) : List Eqn → Int
  | [] => 0
  | q :: l => if c ∈ q.1 ∧ openQ U q = 1 then max (restQ t q) (lowF t U c l) else lowF t U c l
def highF (M : Int) (t : List Int) (c : Nat) : List Eqn → Int
  | [] => M
  | q :: l => if c ∈ q.1 then min (restQ t q) (highF M t c l) else highF M t c l
theorem lowF_le {t : List Int} {U : List Nat} {c : Nat} {v : Int} : ∀ {l : List Eqn}, lowF t U c l ≤ v ↔ 0 ≤ v ∧ ∀ q ∈ l, c ∈ q.1 → openQ U q = 1 → restQ t q ≤ v
  | [] => by simp [lowF]
  | q :: l => by
    unfold lowF
    by_cases h : c ∈ q.1 ∧ openQ U q = 1
    · rw [if_pos h, Int.max_le, lowF_le]
      constructor
      · rintro ⟨h1, h2, h3⟩
        refine ⟨h2, fun p hp => ?_⟩
        rcases List.mem_cons.1 hp with rfl | hp
        · exact fun _ _ => h1
        · exact h3 p hp
      · rintro ⟨h1, h2⟩
        exact ⟨h2 q (by simp) h.1 h.2, h1, fun p hp => h2 p (by simp [hp])⟩
    · rw [if_neg h, lowF_le]
      constructor
      · rintro ⟨h2, h3⟩
        refine ⟨h2, fun p hp => ?_⟩
        rcases List.mem_cons.1 hp with rfl | hp
        · exact fun a b => absurd ⟨a, b⟩ h
        · exact h3 p hp
      · rintro ⟨h1, h2⟩
        exact ⟨h1, fun p hp => h2 p (by simp [hp])⟩
theorem le_highF {M : Int} {t : List Int} {c : Nat} {v : Int} : ∀ {l : List Eqn}, v ≤ highF M t c l ↔ v ≤ M ∧ ∀ q ∈ l, c ∈ q.1 → v ≤ restQ t q
  | [] => by simp [highF]
  | q :: l => by
    unfold highF
    by_cases h : c ∈ q.1
    · rw [if_pos h, Int.le_min, le_highF]
      constructor
      · rintro ⟨h1, h2, h3⟩
        refine ⟨h2, fun p hp => ?_⟩
        rcases List.mem_cons.1 hp with rfl | hp
        · exact fun _ => h1
        · exact h3 p hp
      · rintro ⟨h1, h2⟩
        exact ⟨h2 q (by simp) h, h1, fun p hp => h2 p (by simp [hp])⟩
    · rw [if_neg h, le_highF]
      constructor
      · rintro ⟨h2, h3⟩
        refine ⟨h2, fun p hp => ?_⟩
        rcases List.mem_cons.1 hp with rfl | hp
        · exact fun a => absurd a h
        · exact h3 p hp
      · rintro ⟨h1, h2⟩
        exact ⟨h1, fun p hp => h2 p (by simp [hp])⟩
/-- What holds while cells are found one by one. -/
structure Inv (n : Nat) (l : List Eqn) (U : List Nat) (t : List Int) : Prop where
  len : t.length = n
  nd : U.Nodup
  lt : ∀ c ∈ U, c < n
  zero : ∀ c ∈ U, t.getD c 0 = 0
  pos : ∀ q ∈ l, 0 ≤ restQ t q
  done : ∀ q ∈ l, openQ U q = 0 → restQ t q = 0
/-- Equations whose cells stand once each. -/
def Once (l : List Eqn) : Prop := ∀ q ∈ l, q.1.Nodup
theorem openQ_cons {c : Nat} {U : List Nat} {q : Eqn} (hn : q.1.Nodup) (hc : c ∉ U) : openQ (c :: U) q = openQ U q + if c ∈ q.1 then 1 else 0 := by
  unfold openQ
  obtain ⟨cs, v⟩ := q
  dsimp only at *
  induction cs with
  | nil => rfl
  | cons d cs ih =>
    obtain ⟨h1, h2⟩ := List.nodup_cons.1 hn
    have ih := ih h2
    by_cases hd : d = c
    · subst hd
      rw [List.filter_cons_of_pos (by simp), List.filter_cons_of_neg (by simp [hc]), List.length_cons, ih, if_neg h1, if_pos (by simp)]
    · have hmem : (d ∈ c :: U) ↔ d ∈ U := by simp [hd]
      have e1 : (c ∈ d :: cs) ↔ c ∈ cs := by simp [Ne.symm hd]
      by_cases hdU : d ∈ U
      · rw [List.filter_cons_of_pos (by simp [hdU]), List.filter_cons_of_pos (by simp [hdU]), List.length_cons, List.length_cons, ih]
        by_cases hcs : c ∈ cs
        · rw [if_pos hcs, if_pos (e1.2 hcs)]
        · rw [if_neg hcs, if_neg fun h => hcs (e1.1 h)]
      · rw [List.filter_cons_of_neg (by simp [hdU, hd]), List.filter_cons_of_neg (by simp [hdU]), ih]
        by_cases hcs : c ∈ cs
        · rw [if_pos hcs, if_pos (e1.2 hcs)]
        · rw [if_neg hcs, if_neg fun h => hcs (e1.1 h)]
theorem restQ_set {t : List Int} {c : Nat} {v : Int} {q : Eqn} (hc : c < t.length) (hn : q.1.Nodup) (h0 : t.getD c 0 = 0) : restQ (t.set c v) q = restQ t q - if c ∈ q.1 then v else 0 := by
  unfold restQ
  rw [sumC_set hc hn, h0]
  split <;> omega
theorem Inv.step {n : Nat} {l : List Eqn} {c : Nat} {U : List Nat} {t : List Int} {M v : Int} (ho : Once l) (h : Inv n l (c :: U) t) (h1 : lowF t (c :: U) c l ≤ v) (h2 : v ≤ highF M t c l) : Inv n l U (t.set c v) := by
  obtain ⟨hn1, hn2⟩ := List.nodup_cons.1 h.nd
  have hcn := h.lt c (by simp)
  have hlen := h.len
  have h0 := h.zero c (by simp)
  obtain ⟨hv, hlow⟩ := lowF_le.1 h1
  obtain ⟨_, hhigh⟩ := le_highF.1 h2
  refine ⟨by rw [List.length_set]; exact hlen, hn2, fun d hd => h.lt d (by simp [hd]), fun d hd => ?_, fun q hq => ?_, fun q hq hop => ?_⟩
  · rw [getD_setI (by omega), if_neg (fun e => hn1 (by rw [← e]; exact hd))]
    exact h.zero d (by simp [hd])
  · rw [restQ_set (by omega) (ho q hq) h0]
    have := h.pos q hq
    by_cases hc : c ∈ q.1
    · rw [if_pos hc]; have := hhigh q hq hc; omega
    · rw [if_neg hc]; omega
  · have hoc := openQ_cons (q := q) (ho q hq) hn1
    rw [restQ_set (by omega) (ho q hq) h0]
    by_cases hc : c ∈ q.1
    · rw [if_pos hc] at hoc ⊢
      have e1 := hlow q hq hc (by omega)
      have e2 := hhigh q hq hc
      omega
    · rw [if_neg hc] at hoc ⊢
      have := h.done q hq (by omega)
      omega
theorem sumC_split {s t : List Int} {U : List Nat} : ∀ {cs : List Nat}, (∀ c ∈ cs, c ∉ U → s.getD c 0 = t.getD c 0) → (∀ c ∈ cs, c ∈ U → t.getD c 0 = 0) → sumC s cs = sumC t cs + sumC s (cs.filter fun c => decide (c ∈ U))
  | [], _, _ => rfl
  | c :: cs, h1, h2 => by
    have ih := sumC_split (s := s) (t := t) (U := U) (cs := cs) (fun d hd => h1 d (by simp [hd])) (fun d hd => h2 d (by simp [hd]))
    rw [sumC, sumC, ih]
    by_cases hc : c ∈ U
    · rw [List.filter_cons_of_pos (by simp [hc]), sumC, h2 c (by simp) hc]; omega
    · rw [List.filter_cons_of_neg (by simp [hc]), h1 c (by simp) hc]; omega
theorem sumC_nonneg {s : List Int} : ∀ {cs : List Nat}, (∀ c ∈ cs, 0 ≤ s.getD c 0) → 0 ≤ sumC s cs
  | [], _ => Int.le_refl _
  | c :: cs, h => by have := h c (by simp); have := sumC_nonneg (cs := cs) fun d hd => h d (by simp [hd]); rw [sumC]; omega
theorem le_sumC {s : List Int} {c : Nat} : ∀ {cs : List Nat}, (∀ d ∈ cs, 0 ≤ s.getD d 0) → c ∈ cs → s.getD c 0 ≤ sumC s cs
  | d :: cs, h, hc => by
    have h1 := sumC_nonneg (cs := cs) fun e he => h e (by simp [he])
    have h2 := h d (by simp)
    rw [sumC]
    rcases List.mem_cons.1 hc with rfl | hc
    · omega
    · have := le_sumC (fun e he => h e (by simp [he])) hc; omega
/-- What is found, in words. -/
structure Goes (n : Nat) (M : Int) (l : List Eqn) (U : List Nat) (t s : List Int) : Prop where
  len : s.length = n
  same : ∀ c, c ∉ U → s.getD c 0 = t.getD c 0
  pos : ∀ c ∈ U, 0 ≤ s.getD c 0 ∧ s.getD c 0 ≤ M
  sum : ∀ q ∈ l, sumC s q.1 = q.2
theorem Goes.step {n : Nat} {M : Int} {l : List Eqn} {c : Nat} {U : List Nat} {t s : List Int} (hinv : Inv n l (c :: U) t) (h : Goes n M l (c :: U) t s) : Goes n M l U (t.set c (s.getD c 0)) s := by
  have hcn := hinv.lt c (by simp)
  have hlen := hinv.len
  refine ⟨h.len, fun d hd => ?_, fun d hd => h.pos d (by simp [hd]), h.sum⟩
  rw [getD_setI (by omega)]
  by_cases hdc : d = c
  · rw [if_pos hdc, hdc]
  · rw [if_neg hdc]; exact h.same d (by simp [hd, hdc])
theorem Goes.back {n : Nat} {M : Int} {l : List Eqn} {c : Nat} {U : List Nat} {t s : List Int} {v : Int} (hinv : Inv n l (c :: U) t) (h : Goes n M l U (t.set c v) s) (h0 : 0 ≤ v) (hM : v ≤ M) : Goes n M l (c :: U) t s ∧ s.getD c 0 = v := by
  have hcn := hinv.lt c (by simp)
  have hlen := hinv.len
  obtain ⟨hn1, _⟩ := List.nodup_cons.1 hinv.nd
  have hcv : s.getD c 0 = v := by rw [h.same c hn1, getD_setI (by omega), if_pos rfl]
  refine ⟨⟨h.len, fun d hd => ?_, fun d hd => ?_, h.sum⟩, hcv⟩
  · have hd' : d ≠ c ∧ d ∉ U := by simpa using hd
    rw [h.same d hd'.2, getD_setI (by omega), if_neg hd'.1]
  · rcases List.mem_cons.1 hd with rfl | hd
    · rw [hcv]; exact ⟨h0, hM⟩
    · exact h.pos d hd
/-- Between which numbers the next cell lies. -/
theorem Goes.span {n : Nat} {M : Int} {l : List Eqn} {c : Nat} {U : List Nat} {t s : List Int} (hinv : Inv n l (c :: U) t) (h : Goes n M l (c :: U) t s) : lowF t (c :: U) c l ≤ s.getD c 0 ∧ s.getD c 0 ≤ highF M t c l := by
  have hp := h.pos c (by simp)
  have hrest : ∀ q ∈ l, restQ t q = sumC s (q.1.filter fun d => decide (d ∈ c :: U)) := fun q hq => by
    have h1 := sumC_split (s := s) (t := t) (U := c :: U) (cs := q.1) (fun d _ hd => h.same d hd) (fun d _ hd => hinv.zero d hd)
    have h2 := h.sum q hq
    unfold restQ
    omega
  have hnn : ∀ q : Eqn, ∀ d ∈ q.1.filter (fun d => decide (d ∈ c :: U)), 0 ≤ s.getD d 0 := fun q d hd => (h.pos d (by have := (List.mem_filter.1 hd).2; exact of_decide_eq_true this)).1
  constructor
  · rw [lowF_le]
    refine ⟨hp.1, fun q hq hc hop => ?_⟩
    rw [hrest q hq]
    have hmem : c ∈ q.1.filter (fun d => decide (d ∈ c :: U)) := List.mem_filter.2 ⟨hc, by simp⟩
    unfold openQ at hop
    generalize q.1.filter (fun d => decide (d ∈ c :: U)) = f at hop hmem
    match f, hop, hmem with
    | [x], _, hm =>
      rw [List.mem_singleton.1 hm]
      simp [sumC]
  · rw [le_highF]
    refine ⟨hp.2, fun q hq hc => ?_⟩
    rw [hrest q hq]
    exact le_sumC (hnn q) (List.mem_filter.2 ⟨hc, by simp⟩)
/-! Going on until someone has enough -/
end Go.Sol
/-
  The proof engine, part AF: a body with a label that nothing jumps to (a labelled 'continue' is an exit of a block).
-/
namespace Go.Eng
/-- Nothing goes on behind a jump. -/
def NoG (Q : Exit → Act → World → Prop) : Prop := ∀ l a w, ¬ Q (.goto l) a w
theorem NoG.fn {P : Program} {fn : Func} {I : PH} {F : Res} {W : World} {Post : Value → List Res → Prop} : NoG (fnPost P fn I F W Post) := fun _ _ _ h => h
theorem NoG.then_ {K : Act → World → Prop} {Q : Exit → Act → World → Prop} (h : NoG Q) : NoG (Exit.then K Q) := fun l a w hq => h l a w hq
theorem NoG.inB {id : Nat} {Q : Exit → Act → World → Prop} (h : NoG Q) : NoG (Exit.inBlock id Q) := fun l a w hq => h l a w hq
section
variable {C : Cx} {e : Env} {I : PH} {R : List Res} {Q : Exit → Act → World → Prop} {c : Code}
end
end Go.Eng
/-
  The proof engine, part AJ: calls that may end by a panic; a function that puts off a call which recovers.
-/
namespace Go.Eng
/-- Called in any memory that holds 'Rpre' beside any other, the function returns, or it panics; memory then holds what 'Post', or 'Pan', says beside that other. -/
def FnSpecP (P : Program) (f : FuncId) (args : List Value) (I : PH) (Rpre : List Res) (Post : Value → List Res → Prop) (Pan : List PanicEntry → List Res → Prop) : Prop :=
  ∀ (w : World) (F : Res), St w I (Rpre ++ [F]) w → Calls P f args.toArray w fun e w' => (∃ v R', e = .returned v ∧ Post v R' ∧ St w I (R' ++ [F]) w') ∨ (∃ ch R', e = .panicked ch ∧ Pan ch R' ∧ St w I (R' ++ [F]) w')
def fnPostP (P : Program) (fn : Func) (I : PH) (F : Res) (W : World) (Post : Value → List Res → Prop) (Pan : List PanicEntry → List Res → Prop) : Exit → Act → World → Prop :=
  bodyPost P fn fun e w' => (∃ v R', e = .returned v ∧ Post v R' ∧ St W I (R' ++ [F]) w') ∨ (∃ ch R', e = .panicked ch ∧ Pan ch R' ∧ St W I (R' ++ [F]) w')
set_option maxHeartbeats 8000000 in
theorem FnSpecP.enterP {P : Program} {f : FuncId} {fn : Func} {args : List Value} {I : PH} {Rpre : List Res} {Post : Value → List Res → Prop} {Pan : List PanicEntry → List Res → Prop} {n : Nat}
    (hf : P.funcs[f]? = some fn) (hb : fn.body.isSome = true) (hn : fn.ntmps = n) (hle : Nat.ble args.length n = true)
    (h : ∀ w F, Nx ⟨P, n, w⟩ (argEnv args 0) I (Rpre ++ [F]) ((bodyOf fn).wp P (fnPostP P fn I F w Post Pan))) : FnSpecP P f args I Rpre Post Pan := by
  obtain ⟨c, hc⟩ := Option.isSome_iff_exists.1 hb
  have : bodyOf fn = c := by unfold bodyOf; rw [hc]
  rw [this] at h
  intro w F hw
  have hle := Nat.le_of_ble_eq_true hle
  refine calls_of_wp hf hc (h w F _ w ⟨?_, rfl, fun t v ht => ?_⟩ hw)
  · simp [hn]; omega
  · obtain ⟨_, h2⟩ := argEnv_lk args 0 t v ht
    have hlt : t < args.length := by
      rcases Nat.lt_or_ge t args.length with h' | h'
      · exact h'
      · rw [Nat.sub_zero, List.getElem?_eq_none h'] at h2; cases h2
    rw [Array.getElem?_append_left (by simpa using hlt)]
    simpa using h2
set_option maxHeartbeats 8000000 in
theorem FnSpecP.mono {P : Program} {f : FuncId} {args : List Value} {I : PH} {Rpre : List Res} {Post Post' : Value → List Res → Prop} {Pan Pan' : List PanicEntry → List Res → Prop} (h : FnSpecP P f args I Rpre Post Pan) (hp : ∀ v R', Post v R' → Post' v R') (hq : ∀ ch R', Pan ch R' → Pan' ch R') : FnSpecP P f args I Rpre Post' Pan' :=
  fun w F hw => (h w F hw).mono fun _ _ hx => by
    rcases hx with ⟨v, R', he, hv, hs⟩ | ⟨v, R', he, hv, hs⟩
    · exact .inl ⟨v, R', he, hp v R' hv, hs⟩
    · exact .inr ⟨v, R', he, hq v R' hv, hs⟩
section
variable {C : Cx} {e : Env} {I : PH} {R : List Res} {K : Act → World → Prop} {Q : Exit → Act → World → Prop}
variable {d : Nat} {ty : TypeId} {pos : String} {after : Array Edge} {g : Option (Nat × Bool)} {x : Operand} {dst : Option Tmp}
end
/-! A function that puts a call off -/
def L (ds : List Deferred) (K : Act → World → Prop) : Act → World → Prop := fun a w => K { a with defers := ds } w
def LQ (ds : List Deferred) (Q : Exit → Act → World → Prop) : Exit → Act → World → Prop := fun ex a w => Q ex { a with defers := ds } w
/-- An operation that puts no call off, and that is no call. -/
def plainOp (o : Oper) : Bool := match o.op with
  | .move _ | .assign _ | .alloc _ | .build .. | .buildSlice .. | .load .. | .store .. | .unOp .. | .convert .. | .makeInterface .. | .makeFunc .. | .fieldAddr .. | .indexAddr .. | .extract .. => true
  | _ => false
theorem run_v_kind {s : Sem Value} {P : Program} {w w' : World} {n : Next} (h : Sem.run P (do pure (Next.value (← s))) w = .ok n w') : ∃ v, n = .value v := by
  rw [Sem.run_bind] at h
  cases hs : s.run P w with
  | ok v w1 => rw [hs] at h; cases h; exact ⟨v, rfl⟩
  | halt r w1 => rw [hs] at h; cases h
theorem run_u_kind {s : Sem Unit} {P : Program} {w w' : World} {n : Next} (h : Sem.run P (do s; pure Next.skip) w = .ok n w') : n = .skip := by
  rw [Sem.run_bind] at h
  cases hs : s.run P w with
  | ok v w1 => rw [hs] at h; cases h; rfl
  | halt r w1 => rw [hs] at h; cases h
theorem plain_run {o : Oper} (hp : plainOp o = true) {ρ : Operand → Value} {P : Program} {w w' : World} {n : Next} (h : (execOp ρ o).run P w = .ok n w') : (∃ v, n = .value v) ∨ n = .skip := by
  obtain ⟨dst, op, ty, pos, after, g⟩ := o
  cases op <;> simp only [plainOp, Bool.false_eq_true] at hp <;> first
    | exact False.elim hp
    | exact .inl (run_v_kind h)
    | exact .inr (run_u_kind h)
    | (cases h; exact .inl ⟨_, rfl⟩)
section
variable {C : Cx} {e : Env} {I : PH} {R : List Res} {K : Act → World → Prop} {Q : Exit → Act → World → Prop} {ds : List Deferred} {ops : Array Oper} {i : Nat} {o : Oper} {c : Code}
theorem NxL.at_op (ho : opAt ops.toList i = some o) (hg : o.guard = none) (h : Nx C e I R (L ds (opK C.P o (wpAt C.P ops Q (i + 1)) Q))) : Nx C e I R (L ds (wpAt C.P ops Q i)) := by
  intro a w ha hw
  have h1 := h a w ha hw
  unfold L wpAt at *
  rw [drop_of (opAt_arr ho)]
  unfold wpList
  rw [if_pos (by simp [Region.wanted, hg])]
  exact .inl h1
theorem NxL.at_end (ho : opAt ops.toList i = none) (h : Nx C e I R (L ds (Q .normal))) : Nx C e I R (L ds (wpAt C.P ops Q i)) := by
  intro a w ha hw
  have h1 := h a w ha hw
  unfold L wpAt at *
  rw [List.drop_eq_nil_of_le (by have := Array.getElem?_eq_none_iff.1 (opAt_arr ho); simpa using this)]
  exact h1
theorem NxL.p_region (hk : ck c = 1) (h : Nx C e I R (L ds (wpAt C.P (cops c) Q 0))) : Nx C e I R (L ds (c.wp C.P Q)) := by
  cases c <;> first | (simp [ck] at hk; done) | skip
  rename_i id ops d
  cases d with
  | true => simp [ck] at hk
  | false =>
    intro a w ha hw
    have h1 := h a w ha hw
    unfold L wpAt at h1
    rw [List.drop_zero] at h1
    exact wp_region_list h1
theorem NxL.p_seq (hk : ck c = 3) (h : Nx C e I R (L ds ((cl c).wp C.P (Exit.then ((cr c).wp C.P Q) Q)))) : Nx C e I R (L ds (c.wp C.P Q)) := by
  cases c <;> first | exact fun a w ha hw => wp_seq (h a w ha hw) | (simp [ck] at hk; done) | (rename_i d; cases d <;> simp [ck] at hk)
theorem NxL.p_ret (hk : ck c = 8) (h : Nx C e I R (L ds (Q .ret))) : Nx C e I R (L ds (c.wp C.P Q)) := by
  cases c <;> first | exact fun a w ha hw => wp_ret (h a w ha hw) | (simp [ck] at hk; done) | (rename_i d; cases d <;> simp [ck] at hk)
theorem NxL.then_normal (h : Nx C e I R (L ds K)) : Nx C e I R (L ds (Exit.then K Q .normal)) := h
theorem NxL.then_ret (h : Nx C e I R (L ds (Q .ret))) : Nx C e I R (L ds (Exit.then K Q .ret)) := h
theorem put_defers (a : Act) (dst : Option Tmp) (v : Value) : { a.put dst v with defers := ds } = ({ a with defers := ds } : Act).put dst v := by cases dst <;> rfl
/-- An operation, walked as if no call had been put off. -/
theorem NxL.op (hp : plainOp o = true) (h : Nx C e I R (opK C.P o (L ds K) (LQ ds Q))) : Nx C e I R (L ds (opK C.P o K Q)) := by
  intro a w ha hw
  have h1 := h a w ha hw
  unfold L
  unfold opK Oper.wp at h1 ⊢
  have he : ({ a with defers := ds } : Act).eval = a.eval := rfl
  rw [he]
  cases hr : (execOp a.eval o).run C.P w with
  | ok n w' =>
    rw [hr] at h1
    rcases plain_run hp hr with ⟨v, rfl⟩ | rfl
    · show K _ _
      have h2 : K { a.put o.dst v with defers := ds } w' := h1
      rw [put_defers] at h2
      exact h2
    · show K _ _
      have h2 : K { a.put o.dst undef with defers := ds } w' := h1
      rw [put_defers] at h2
      exact h2
  | halt s w' =>
    rw [hr] at h1
    cases s <;> first | exact h1 | exact h1.elim
variable {d : Nat} {ty : TypeId} {pos : String} {after : Array Edge} {g : Option (Nat × Bool)}
def fnPostD (P : Program) (fn : Func) (I : PH) (F : Res) (W : World) (Post : Value → List Res → Prop) : Exit → Act → World → Prop :=
  bodyPostD P fn fun e w' => ∃ v R', e = .returned v ∧ Post v R' ∧ St W I (R' ++ [F]) w'
end
end Go.Eng
/- Contracts of functions of the given program, and lemmas about plain lists and numbers: what the laws of this seat lean on. -/
namespace Go.Proofs.YtpcnapidlhpbkaaGreatDoor
open Go.Eng Go.Sol
attribute [local irreducible] opK wpList Code.wp Exit.then Exit.inBlock fnPost bodyPost Nx Calls Oper.wp Rd Rds Wr Ent Stars Blk Again Vec FnSpec wpMix QRun Stop Upto wpAt
/-! The problem of a search: what is left of each equation, how many of its cells are open, the table so far -/
abbrev iR (A : Option Addr) (c : Nat) (l : List Int) : Res := Vec 3 1 A l.length c (l.map (Value.int .i64))
abbrev PT : TypeId := 176
/-- Where the problem's lists lie. -/
structure Pl where
  b : Nat
  tv : Value
  iv : Value
  Ar : Option Addr
  cr : Nat
  Ao : Option Addr
  co : Nat
  At : Option Addr
  ct : Nat
def Pl.blk (p : Pl) (n k : Nat) : Res := Blk p.b PT [p.tv, p.iv, .slice p.Ar k p.cr, .slice p.Ao k p.co, .slice p.At n p.ct]
/-- The equations in which a cell is. -/
def inL (l : List Eqn) (c : Nat) : List Int := ((List.range l.length).filter fun i => decide (c ∈ (l.getD i default).1)).map Int.ofNat
/-- The lists of equations of each cell, given up. -/
structure InI (I : PH) (p : Pl) (n : Nat) (l : List Eqn) : Prop where
  ex : ∃ (Ai : Option Addr) (ci : Nat) (ins : List Row), p.iv = .slice Ai n ci ∧ ins.length = n ∧ SliceOf rowV I Ai ci ins ∧ (∀ r ∈ ins, Ints I r.1 r.2.1 r.2.2) ∧ ∀ c, c < n → (ins.getD c default).2.2 = inL l c
theorem InI.mono {I I' : PH} {p : Pl} {n : Nat} {l : List Eqn} (hle : PH.le I I') (h : InI I p n l) : InI I' p n l := by
  obtain ⟨Ai, ci, ins, h1, h2, h3, h4, h5⟩ := h.ex
  exact ⟨Ai, ci, ins, h1, h2, h3.mono hle, fun r hr => (h4 r hr).mono hle, h5⟩
/-! The span of a cell -/
end Go.Proofs.YtpcnapidlhpbkaaGreatDoor
/-
  The proof engine, part AK: calls that may panic, whose value is kept; going on until someone has enough.
-/
namespace Go.Eng
section
variable {C : Cx} {e : Env} {I : PH} {R : List Res} {K : Act → World → Prop} {Q : Exit → Act → World → Prop} {ds : List Deferred}
variable {d : Nat} {ty : TypeId} {pos : String} {after : Array Edge} {g : Option (Nat × Bool)}
theorem Nx.of (h : ∀ a w, Mod C.n e a → St C.W I R w → K a w) : Nx C e I R K := h
end
end Go.Eng
namespace Go.Sol
theorem flat_snoc {α : Type} (g : Nat → List α) (k : Nat) : (List.range (k + 1)).flatMap g = (List.range k).flatMap g ++ g k := by
  rw [List.range_succ, List.flatMap_append]; simp
end Go.Sol
/-
  The proof engine, part Y: more on strings and closures.
-/
namespace Go.Eng
theorem Blk.cell {b k : Nat} {t : TypeId} {cs : List Value} {v : Value} {m : PH} (h : Blk b t cs m) (hk : nthL cs k = some v) : cellH m ⟨b, k, none⟩ = some v := by
  rw [nthL_eq] at hk
  simp [cellH, show m b = _ from h]
  exact hk
end Go.Eng
/-
  The proof engine, part Q: rows that a function of the library has rearranged.
-/
namespace Go.Eng
open Go.Sort
section
variable {I : PH} {R : List Res} {W w : World} {t : TypeId} {α : Type} [Inhabited α]
theorem Vec.holds {f : α → Value} {b c : Nat} {l : List α} (h : St W I (Vec t 1 (some ⟨b, 0, none⟩) l.length c (l.map f) :: R) w) : Holds f w b 0 l.toArray ∧ b < w.heap.size := by
  obtain ⟨⟨m, ⟨m1, m2, hd, rfl, hv, h2⟩, hs⟩, hst⟩ := id h
  rcases hv.2 with ⟨h0, _, _⟩ | ⟨b', cur, he, hb, hnc, hcm, hsz, htake⟩
  · cases h0
  cases he
  have hb0 : w.heap[b]? = some (.cells cur t (0, 0)) := hs.own _ _ (PH.le_or_left _ _ _ _ hb)
  refine ⟨fun j hj => ?_, (Array.getElem?_eq_some_iff.1 hb0).1⟩
  have hj' : j < l.length := by simpa using hj
  rw [Nat.zero_add]
  refine ⟨?_, frozen_of_row w b j cur t hb0⟩
  rw [cell_of_row w b j cur t (0, 0) hb0, getElem!_pos l.toArray j hj]
  have h1 : (cur.toList.take (l.length * 1))[j]? = (l.map f)[j]? := by rw [htake]
  rw [List.getElem?_take, if_pos (by omega), Array.getElem?_toList, List.getElem?_map, List.getElem?_eq_getElem hj'] at h1
  rw [h1]; simp
end
end Go.Eng
/- Contracts of functions of the given program, and lemmas about plain lists and numbers: what the laws of this seat lean on. -/
namespace Go.Proofs.YtpcnapidlhpbkaaGreatDoor
end Go.Proofs.YtpcnapidlhpbkaaGreatDoor
namespace Go.Proofs.YtpcnapidlhpbkaaGreatDoor
open Go.Eng
/-! Sets as ascending lists -/
structure IsSet (r : List Int) (p : Int → Prop) : Prop where
  asc : r.Pairwise (· < ·)
  mem : ∀ x, x ∈ r ↔ p x
theorem asc_ext : ∀ {a b : List Int}, a.Pairwise (· < ·) → b.Pairwise (· < ·) → (∀ x, x ∈ a ↔ x ∈ b) → a = b
  | [], [], _, _, _ => rfl
  | [], y :: s, _, _, h => by have := (h y).2 (by simp); cases this
  | x :: r, [], _, _, h => by have := (h x).1 (by simp); cases this
  | x :: r, y :: s, ha, hb, h => by
    rw [List.pairwise_cons] at ha hb
    have h1 : x = y := by
      have h2 := (h x).1 (by simp)
      have h3 := (h y).2 (by simp)
      rcases List.mem_cons.1 h2 with rfl | h2
      · rfl
      · rcases List.mem_cons.1 h3 with h3 | h3
        · exact h3.symm
        · have := ha.1 y h3; have := hb.1 x h2; omega
    subst h1
    rw [asc_ext ha.2 hb.2 (fun z => ?_)]
    have hz := h z
    simp only [List.mem_cons] at hz
    constructor
    · intro h4
      rcases hz.1 (.inr h4) with h5 | h5
      · have := ha.1 z h4; omega
      · exact h5
    · intro h4
      rcases hz.2 (.inr h4) with h5 | h5
      · have := hb.1 z h4; omega
      · exact h5
theorem IsSet.same {a b : List Int} {p q : Int → Prop} (ha : IsSet a p) (hb : IsSet b q) (h : ∀ x, p x ↔ q x) : a = b := asc_ext ha.asc hb.asc fun x => by rw [ha.mem, hb.mem, h]
end Go.Proofs.YtpcnapidlhpbkaaGreatDoor
/- Contracts of functions of the given program, and lemmas about plain lists and numbers: what the laws of this seat lean on. -/
namespace Go.Proofs.YtpcnapidlhpbkaaGreatDoor
open Go.Eng Go.Sol
attribute [local irreducible] opK wpList Code.wp Exit.then Exit.inBlock fnPost bodyPost Nx Calls Oper.wp Rd Rds Wr Ent Stars Blk Again Vec FnSpec wpMix QRun Stop Upto wpAt
/-! Lists of equations that lie in memory -/
abbrev EqR := Row × Int
def eqC (q : EqR) : List Value := [.slice q.1.1 q.1.2.2.length q.1.2.1, .int .i64 q.2]
structure Eqs (I : PH) (A : Option Addr) (c : Nat) (l : List EqR) : Prop where
  outer : SliceN eqC 2 I A c l
  inner : ∀ q ∈ l, Ints I q.1.1 q.1.2.1 q.1.2.2
theorem Eqs.mono {I I' : PH} {A : Option Addr} {c : Nat} {l : List EqR} (hle : PH.le I I') (h : Eqs I A c l) : Eqs I' A c l := ⟨h.outer.mono hle, fun q hq => (h.inner q hq).mono hle⟩
theorem Eqs.len {I : PH} {A : Option Addr} {c : Nat} {l : List EqR} (h : Eqs I A c l) : (l.length : Int) ≤ 9223372036854775807 := h.outer.len
theorem getD_memQ {l : List EqR} {k : Nat} (h : k < l.length) : l.getD k default ∈ l := by rw [List.getD_eq_getElem?_getD, List.getElem?_eq_getElem h]; exact List.getElem_mem _
theorem take_snocQ {l : List EqR} {k : Nat} (h : k < l.length) : l.take (k + 1) = l.take k ++ [l.getD k default] := by rw [List.take_succ_eq_append_getElem h, List.getD_eq_getElem?_getD, List.getElem?_eq_getElem h]; rfl
theorem take_snocJ {l : List Int} {k : Nat} (h : k < l.length) : l.take (k + 1) = l.take k ++ [l.getD k default] := by rw [List.take_succ_eq_append_getElem h, List.getD_eq_getElem?_getD, List.getElem?_eq_getElem h]; rfl
theorem eqC_len (q : EqR) : (eqC q).length = 2 := rfl
structure GoodE (n : Nat) (q : EqR) : Prop where
  ne : q.1.2.2 ≠ []
  val : 0 ≤ q.2 ∧ q.2 ≤ 1000000
  asc : q.1.2.2.Pairwise (· < ·)
  lt : ∀ x ∈ q.1.2.2, 0 ≤ x ∧ x < n
def eqn (q : EqR) : Eqn := (q.1.2.2.map Int.toNat, q.2)
end Go.Proofs.YtpcnapidlhpbkaaGreatDoor
/-
  The proof engine, part L: a statement of open order in which several operations that make memory may come up next: the walk forks.
-/
namespace Go.Eng
section
variable {P : Program} {ops : Array Oper} {Q : Exit → Act → World → Prop} {S : World → Prop} {loud fin : List Nat}
def wpFork (P : Program) (ops : Array Oper) (Q : Exit → Act → World → Prop) (S : World → Prop) (loud fin : List Nat) : Nat → Array Bool → Act → World → Prop
  | 0, _, _, _ => False
  | n + 1, listed, a, w => (mixOk ops loud fin listed = true ∧ fin.length ≤ n + 1 ∧ wpMix P ops Q S loud fin a w) ∨
    (Region.ready .any ops listed ≠ [] ∧ ∀ i ∈ Region.ready .any ops listed, wpOp P ops Q i (fun a' w' => S w' ∧ wpFork P ops Q S loud fin n (listed.setIfInBounds i true) a' w') a w)
theorem wpFork_any (hs : Region.noSelect ops = true) (hQ : PanicOk Q) : ∀ (n : Nat) (listed : Array Bool) (a : Act) (w : World), wpFork P ops Q S loud fin n listed a w → S w → wpAnyH P .any ops Q S n listed a w
  | 0, _, _, _, h, _ => h.elim
  | n + 1, listed, a, w, h, hS => by
    rcases h with ⟨h1, h2, h3⟩ | ⟨h1, h2⟩
    · exact wpMix_any hs hQ fin (n + 1) listed a w h1 h2 hS h3
    · exact wpAnyH_all rfl h1 fun i hi => wpOp_mono (fun a' w' ⟨h3, h4⟩ => ⟨h3, wpFork_any hs hQ n _ a' w' h4 h3⟩) (h2 i hi)
end
def listedOf (n : Nat) (q : List Nat) : Array Bool := q.foldl (fun a i => a.setIfInBounds i true) (Array.replicate n false)
section
variable {C : Cx} {e e' : Env} {I : PH} {R R' R0 : List Res} {K K' : Act → World → Prop} {Q : Exit → Act → World → Prop} {W : World}
variable {ops : Array Oper} {S : World → Prop} {loud fin : List Nat} {c : Code} {n i j : Nat} {o oi oj : Oper} {listed : Array Bool}
/-- 'q': what only reads and waits for nothing that writes; 'fin': what comes when all the others have come up. -/
theorem Nx.p_fork {id : Nat} (hid : cid c = id) (q fin loud : List Nat) (R0 : List Res) (fuel : Nat) (hk : ck c = 2) (hm : C.P.follows .mixedOrders = true) (hs : Region.noSelect (cops c) = true)
    (hok : preOk (cops c) (fun l => l == listedOf (cops c).size q) q (Array.replicate (cops c).size false) = true) (hlen : fuel + q.length = (cops c).size) (hQ : PanicOk Q) (hR : Ent R R0)
    (h : Nx C e I R (wpMix C.P (cops c) (Exit.then (wpFork C.P (cops c) Q (St C.W I R0) loud fin fuel (listedOf (cops c).size q)) Q) (St C.W I R0) [] q)) : Nx C e I R (c.wp C.P Q) := by
  have hc : c = .region (cid c) (cops c) true := by
    cases c <;> first | (simp [ck] at hk; done) | skip
    rename_i b
    cases b with
    | false => simp [ck] at hk
    | true => rfl
  clear hid
  rw [hc]
  intro a w ha hw
  refine wp_region_held (S := St C.W I R0) hm ?_
  have key := fun hT => wpMix_pre (fuel := fuel) (S := St C.W I R0) (Q := Q) hs hQ hT q _ a _ hok (hw.drew.ent hR) (h a _ ha hw.drew)
  rw [hlen] at key
  refine key (fun listed a w hpo hSw hT => ?_)
  have hl : listed = listedOf (cops c).size q := by simpa using hpo
  subst hl
  exact wpFork_any hs hQ fuel _ a w hT hSw
theorem Nx.fork_fin (hok : mixOk ops loud fin listed = true) (hl : Nat.ble fin.length (n + 1) = true) (h : Nx C e I R (wpMix C.P ops Q S loud fin)) : Nx C e I R (wpFork C.P ops Q S loud fin (n + 1) listed) :=
  fun a w ha hw => .inl ⟨hok, Nat.le_of_ble_eq_true hl, h a w ha hw⟩
theorem wpOp_of {k : Nat} (ho : opAt ops.toList k = some o) (hg : o.guard = none) (h : Nx C e I R (opK C.P o K Q)) : ∀ a w, Mod C.n e a → St C.W I R w → wpOp C.P ops Q k K a w := fun a w ha hw => by
  unfold wpOp
  rw [opAt_arr ho]
  dsimp only
  rw [if_pos (by simp [Region.wanted, hg])]
  exact .inl (h a w ha hw)
theorem Nx.fork1 (hr : Region.ready .any ops listed = [i]) (ho : opAt ops.toList i = some oi) (hg : oi.guard = none)
    (h : Nx C e I R (opK C.P oi (fun a w => S w ∧ wpFork C.P ops Q S loud fin n (listed.setIfInBounds i true) a w) Q)) : Nx C e I R (wpFork C.P ops Q S loud fin (n + 1) listed) := fun a w ha hw =>
  .inr ⟨by rw [hr]; simp, fun k hk => by
    rw [hr, List.mem_singleton] at hk
    subst hk
    exact wpOp_of ho hg h a w ha hw⟩
theorem Nx.fork2 (hr : Region.ready .any ops listed = [i, j]) (hoi : opAt ops.toList i = some oi) (hgi : oi.guard = none) (hoj : opAt ops.toList j = some oj) (hgj : oj.guard = none)
    (hi : Nx C e I R (opK C.P oi (fun a w => S w ∧ wpFork C.P ops Q S loud fin n (listed.setIfInBounds i true) a w) Q))
    (hj : Nx C e I R (opK C.P oj (fun a w => S w ∧ wpFork C.P ops Q S loud fin n (listed.setIfInBounds j true) a w) Q)) : Nx C e I R (wpFork C.P ops Q S loud fin (n + 1) listed) := fun a w ha hw =>
  .inr ⟨by rw [hr]; simp, fun k hk => by
    rw [hr, List.mem_cons, List.mem_singleton] at hk
    rcases hk with rfl | rfl
    · exact wpOp_of hoi hgi hi a w ha hw
    · exact wpOp_of hoj hgj hj a w ha hw⟩
end
end Go.Eng
/-
  The proof engine, part AL: a statement of open order that forks, and whose last operations write what the first ones read.
-/
namespace Go.Eng
section
variable {P : Program} {ops : Array Oper} {Q : Exit → Act → World → Prop} {S : World → Prop} {fs fin fq : List Nat}
def lateW (ops : Array Oper) (fin : List Nat) (listed : Array Bool) (i : Nat) : Bool := fin.all fun j => listed.getD j false || finWaits .any ops [j] i
theorem wpAnyF_firstL {i : Nat} {oi : Oper} {v : Value} (hi : ops[i]? = some oi) (hs : Region.noSelect ops = true) (hQ : PanicOk Q) :
    ∀ (n : Nat) (listed : Array Bool) (a : Act) (w : World), Closed .any ops listed → (∀ j, fin.contains j = true → listed.getD j false = true ∨ finWaits .any ops [j] i = true) →
      (∀ j oj, ops[j]? = some oj → j ≠ i → listed.getD j true = false → (∀ e ∈ oj.after, Region.binds .any e = true → e.on ≠ i) → oi.apart ops oj = true) →
      i ∈ Region.ready .any ops listed → YieldsIf P ops S oi v a → S w →
      wpAnyF P .any ops Q S fin n (listed.setIfInBounds i true) (a.put oi.dst v) w → wpAnyF P .any ops Q S fin (n + 1) listed a w
  | n, listed, a, w, hcl, hfin, hap, hr, hy, hS, H => by
    refine ⟨fun h0 => (by rw [h0] at hr; cases hr), fun j hj => ?_⟩
    by_cases hji : j = i
    · subst hji; exact hy.wpOp hi hS ⟨fun _ => hS, H⟩
    · have hj2 := ready_mono hj hji
      obtain ⟨hjun, oj, hoj, _⟩ := mem_ready.1 hj
      have hno := ready_waits hr hj hoj
      have hnf : fin.contains j = false := by
        cases hf : fin.contains j with
        | false => rfl
        | true =>
          exfalso
          rcases hfin j hf with h0 | h0
          · rcases Nat.lt_or_ge j listed.size with h' | h'
            · simp [h'] at hjun h0
              rw [hjun] at h0; cases h0
            · simp [Array.getElem?_eq_none h'] at h0
          · have := finWaits_not hcl h0 hr hj
            simp at this
      match n, H with
      | 0, H => rw [H.1] at hj2; cases hj2
      | n + 1, H =>
        have h1 := H.2 j hj2
        have h2 := wpOp_putIf hoj (hap j oj hoj hji hjun hno) (fun cs b => Region.noSelect_spec hs i oi cs b hi) (fun cs b => Region.noSelect_spec hs j oj cs b hoj) (fun c a w => hQ c oi.dst v a w) hy h1
        refine wpOp_mono (fun a' w' h3 => ?_) h2
        obtain ⟨hy', hS', H'⟩ := h3
        refine ⟨fun _ => hS' hnf, wpAnyF_firstL hi hs hQ n (listed.setIfInBounds j true) a' w' (hcl.set hj) (fun k hk => (hfin k hk).imp (fun h => getD_set_true h) id) (fun k ok hk hki hun hnk => ?_) (ready_mono hr (Ne.symm hji)) hy' (hS' hnf) ?_⟩
        · refine hap k ok hk hki ?_ hnk
          by_cases hjk : j = k
          · subst hjk; exact hjun
          · rwa [getD_set_ne true hjk] at hun
        · rw [Array.setIfInBounds_comm _ _ hji]
          exact H'
def preOkF (ops : Array Oper) (fin : List Nat) (k : Array Bool → Bool) : List Nat → Array Bool → Bool
  | [], listed => k listed
  | q :: r, listed => Region.free .any ops listed q && (Region.ready .any ops listed).contains q && lateW ops fin listed q && preOkF ops fin k r (listed.setIfInBounds q true)
def wpForkF (P : Program) (ops : Array Oper) (Q : Exit → Act → World → Prop) (S : World → Prop) (fs fin fq : List Nat) : Nat → Array Bool → Act → World → Prop
  | 0, _, _, _ => False
  | n + 1, listed, a, w => (mixOk ops fq fin listed = true ∧ fin.all (fs.contains ·) = true ∧ fin.length ≤ n + 1 ∧ wpMix P ops Q AnyW fq fin a w) ∨
    (∃ i, (fs.contains i && Region.free .any ops listed i && (Region.ready .any ops listed).contains i) = true ∧ wpMix P ops (Exit.then (wpForkF P ops Q S fs fin fq n (listed.setIfInBounds i true)) Q) AnyW [] [i] a w) ∨
    (∃ i, preOkF ops fs (fun _ => true) [i] listed = true ∧ wpMix P ops (Exit.then (wpForkF P ops Q S fs fin fq n (listed.setIfInBounds i true)) Q) S [] [i] a w) ∨
    (Region.ready .any ops listed ≠ [] ∧ ∀ i ∈ Region.ready .any ops listed, wpOp P ops Q i (fun a' w' => S w' ∧ wpForkF P ops Q S fs fin fq n (listed.setIfInBounds i true) a' w') a w)
theorem wpForkF_any (hs : Region.noSelect ops = true) (hQ : PanicOk Q) : ∀ (n : Nat) (listed : Array Bool) (a : Act) (w : World), Closed .any ops listed → wpForkF P ops Q S fs fin fq n listed a w → S w → wpAnyF P .any ops Q S fs n listed a w
  | 0, _, _, _, _, h, _ => h.elim
  | n + 1, listed, a, w, hcl, h, hS => by
    rcases h with ⟨h1, h0, h2, h3⟩ | ⟨i, h1, h2⟩ | ⟨i, h1, h2⟩ | ⟨h1, h2⟩
    · exact wpMix_finQ hs hQ (fun k hk => by simpa using hk) fin (n + 1) listed a w (fun k hk => by simpa using List.all_eq_true.1 h0 k hk) h1 h2 h3
    · obtain ⟨o, ho, h⟩ := h2
      simp only [Bool.and_eq_true] at h1
      rw [if_neg (by simp)] at h
      obtain ⟨v, hy, h⟩ := h
      exact wpAnyF_firstA ho hs hQ h1.1.1 n listed a w (Region.free_spec ho h1.1.2) (by simpa using h1.2) hy (wpForkF_any hs hQ n _ _ w (hcl.set (by simpa using h1.2)) h hS)
    · obtain ⟨o, ho, h⟩ := h2
      simp only [preOkF, Bool.and_eq_true] at h1
      rw [if_neg (by simp)] at h
      obtain ⟨v, hy, h⟩ := h
      exact wpAnyF_firstL ho hs hQ n listed a w hcl (fun j hj => by have := List.all_eq_true.1 h1.1.2 j (by simpa using hj); simpa using this) (Region.free_spec ho h1.1.1.1) (by simpa using h1.1.1.2) hy hS (wpForkF_any hs hQ n _ _ w (hcl.set (by simpa using h1.1.1.2)) h hS)
    · exact ⟨fun h0 => absurd h0 h1, fun i hi => wpOp_mono (fun a' w' ⟨h3, h4⟩ => ⟨fun _ => h3, wpForkF_any hs hQ n _ a' w' (hcl.set hi) h4 h3⟩) (h2 i hi)⟩
end
section
variable {C : Cx} {e e' : Env} {I : PH} {R R' R0 : List Res} {K K' : Act → World → Prop} {Q : Exit → Act → World → Prop} {W : World}
variable {ops : Array Oper} {S : World → Prop} {fs fin fq : List Nat} {c : Code} {n i j k : Nat} {o oi oj ok : Oper} {listed : Array Bool}
/-- 'fin': what comes when all the others have come up. -/
theorem Nx.p_forkF {id : Nat} (hid : cid c = id) (fs fin fq : List Nat) (R0 : List Res) {sz : Nat} (hsz : (cops c).size = sz) (hk : ck c = 2) (hm : C.P.follows .mixedOrders = true) (hs : Region.noSelect (cops c) = true) (hQ : PanicOk Q) (hR : Ent R R0)
    (h : Nx C e I R (wpForkF C.P (cops c) Q (St C.W I R0) fs fin fq sz (Array.replicate sz false))) : Nx C e I R (c.wp C.P Q) := by
  have hc : c = .region (cid c) (cops c) true := by
    cases c <;> first | (simp [ck] at hk; done) | skip
    rename_i b
    cases b with
    | false => simp [ck] at hk
    | true => rfl
  clear hid
  subst hsz
  rw [hc]
  intro a w ha hw
  exact wp_region_any hm (wpAny_of_fin _ _ _ _ (wpForkF_any (S := St C.W I R0) hs hQ _ _ a _ (Closed.start _) (h a _ ha hw.drew) (hw.drew.ent hR)))
theorem Nx.forkF_fin (hok : mixOk ops fq fin listed = true) (h0 : fin.all (fs.contains ·) = true) (hl : Nat.ble fin.length (n + 1) = true) (h : Nx C e I R (wpMix C.P ops Q AnyW fq fin)) : Nx C e I R (wpForkF C.P ops Q S fs fin fq (n + 1) listed) :=
  fun a w ha hw => .inl ⟨hok, h0, Nat.le_of_ble_eq_true hl, h a w ha hw⟩
/-- Operation i reads no memory, and may come now. -/
theorem Nx.forkF_m (i : Nat) (hok : (fs.contains i && Region.free .any ops listed i && (Region.ready .any ops listed).contains i) = true) (h : Nx C e I R (wpMix C.P ops (Exit.then (wpForkF C.P ops Q S fs fin fq n (listed.setIfInBounds i true)) Q) AnyW [] [i])) : Nx C e I R (wpForkF C.P ops Q S fs fin fq (n + 1) listed) :=
  fun a w ha hw => .inr (.inl ⟨i, hok, h a w ha hw⟩)
theorem forkF_pre {P : Program} : ∀ (qs : List Nat) (listed : Array Bool) (a : Act) (w : World), preOkF ops fs (fun _ => true) qs listed = true → wpMix P ops (Exit.then (wpForkF P ops Q S fs fin fq n (qs.foldl (fun l i => l.setIfInBounds i true) listed)) Q) S [] qs a w → wpForkF P ops Q S fs fin fq (n + qs.length) listed a w
  | [], _, _, _, _, h => h
  | q :: r, listed, a, w, hok, h => by
    obtain ⟨o, ho, h⟩ := h
    simp only [preOkF, Bool.and_eq_true] at hok
    rw [if_neg (by simp)] at h
    obtain ⟨v, hy, h⟩ := h
    have ih := forkF_pre r (listed.setIfInBounds q true) _ w hok.2 h
    refine .inr (.inr (.inl ⟨q, by simp only [preOkF, Bool.and_eq_true]; exact ⟨hok.1, trivial⟩, o, ho, ?_⟩))
    rw [if_neg (by simp)]
    exact ⟨v, hy, ih⟩
/-- Several operations that only read. -/
theorem Nx.forkF_qs (qs : List Nat) (n : Nat) {m : Nat} (hm : m = n + qs.length) (hok : preOkF ops fs (fun _ => true) qs listed = true) (h : Nx C e I R (wpMix C.P ops (Exit.then (wpForkF C.P ops Q S fs fin fq n (qs.foldl (fun l i => l.setIfInBounds i true) listed)) Q) S [] qs)) : Nx C e I R (wpForkF C.P ops Q S fs fin fq m listed) :=
  fun a w ha hw => hm ▸ forkF_pre qs listed a w hok (h a w ha hw)
theorem Nx.forkF1 (hr : Region.ready .any ops listed = [i]) (ho : opAt ops.toList i = some oi) (hg : oi.guard = none)
    (h : Nx C e I R (opK C.P oi (fun a w => S w ∧ wpForkF C.P ops Q S fs fin fq n (listed.setIfInBounds i true) a w) Q)) : Nx C e I R (wpForkF C.P ops Q S fs fin fq (n + 1) listed) := fun a w ha hw =>
  .inr (.inr (.inr ⟨by rw [hr]; simp, fun k hk => by
    rw [hr, List.mem_singleton] at hk
    subst hk
    exact wpOp_of ho hg h a w ha hw⟩))
theorem Nx.forkF2 (hr : Region.ready .any ops listed = [i, j]) (hoi : opAt ops.toList i = some oi) (hgi : oi.guard = none) (hoj : opAt ops.toList j = some oj) (hgj : oj.guard = none)
    (hi : Nx C e I R (opK C.P oi (fun a w => S w ∧ wpForkF C.P ops Q S fs fin fq n (listed.setIfInBounds i true) a w) Q))
    (hj : Nx C e I R (opK C.P oj (fun a w => S w ∧ wpForkF C.P ops Q S fs fin fq n (listed.setIfInBounds j true) a w) Q)) : Nx C e I R (wpForkF C.P ops Q S fs fin fq (n + 1) listed) := fun a w ha hw =>
  .inr (.inr (.inr ⟨by rw [hr]; simp, fun k hk => by
    rw [hr, List.mem_cons, List.mem_singleton] at hk
    rcases hk with rfl | rfl
    · exact wpOp_of hoi hgi hi a w ha hw
    · exact wpOp_of hoj hgj hj a w ha hw⟩))
end
end Go.Eng
/- Contracts of functions of the given program, and lemmas about plain lists and numbers: what the laws of this seat lean on. -/
namespace Go.Proofs.YtpcnapidlhpbkaaGreatDoor
open Go.Eng Go.Sol
attribute [local irreducible] opK wpList Code.wp Exit.then Exit.inBlock fnPost bodyPost Nx Calls Oper.wp Rd Rds Wr Ent Stars Blk Again Vec FnSpec wpMix QRun Stop Upto wpAt
/-! The problem at the start: what it is -/
abbrev rwR (r : Row) : Res := iR r.1 r.2.1 r.2.2
end Go.Proofs.YtpcnapidlhpbkaaGreatDoor
/- Contracts of functions of the given program, and lemmas about plain lists and numbers: what the laws of this seat lean on. -/
namespace Go.Proofs.YtpcnapidlhpbkaaGreatDoor
open Go.Eng Go.Sol
attribute [local irreducible] opK wpList Code.wp Exit.then Exit.inBlock fnPost bodyPost Nx Calls Oper.wp Rd Rds Wr Ent Stars Blk Again Vec FnSpec wpMix QRun Stop Upto wpAt
theorem unstopN {C : Cx} {e : Env} {I : PH} {R : List Res} {K : Act → World → Prop} (h : Nx C e I R K) : Nx C e I R (Stop K) := by unfold Stop; exact h
/-! The problem is given up, but for what is left of the equations and the table -/
theorem started {C : Cx} {e : Env} {I : PH} {R RR : List Res} {K : Act → World → Prop} {p : Pl} {Atd Ai : Option Addr} {ctd ci n : Nat} {ins : List Row} {L : List Eqn} {td : List Nat} (hiv : p.iv = .slice Ai n ci) (hil : ins.length = n) (hins : ∀ c, c < n → (ins.getD c default).2.2 = inL L c)
    (hR : Ent R (Vec 31 1 Ai n ci (ins.map rowV) :: Stars (ins.map rwR) :: iR Atd ctd (td.map Int.ofNat) :: RR)) (h : ∀ I', PH.le I I' → InI I' p n L → Ints I' Atd ctd (td.map Int.ofNat) → Nx C e I' RR K) : Nx C e I R K := by
  refine Nx.ent hR ?_
  refine Nx.freezeAt 0 rfl fun I1 m1 hI1 hm1 h1 => ?_
  refine Nx.freezeAt 0 rfl fun I2 m2 hI2 hm2 h2 => ?_
  refine Nx.freezeAt 0 rfl fun I3 m3 hI3 hm3 h3 => ?_
  subst hil
  refine h I3 ((hI1.trans hI2).trans hI3) ⟨Ai, ci, ins, hiv, rfl, Vec.sliceOf ((hm1.trans hI2).trans hI3) h1, fun x hx => ?_, hins⟩ (Vec.sliceOf hm3 h3)
  obtain ⟨k, hk, rfl⟩ := List.mem_iff_getElem.1 hx
  obtain ⟨m', hle, hr⟩ := Stars.get k h2 (r := rwR ins[k]) (by rw [nthL_eq, List.getElem?_map, List.getElem?_eq_getElem hk]; rfl)
  exact Vec.sliceOf (t := 3) (hle.trans (hm2.trans hI3)) hr
/-! The functions that are shown the solutions -/
end Go.Proofs.YtpcnapidlhpbkaaGreatDoor
/-
  The proof engine, part AG: an element of an owned list of structs is stored whole.
-/
namespace Go.Eng
section
variable {P : Program} {W : World} {I : PH} {R : List Res} {t : TypeId} {A : Option Addr} {n c : Nat}
theorem setsAt_eq : ∀ (vs cs : List Value) (i : Nat), i + vs.length ≤ cs.length → setsAt cs i vs = some (cs.take i ++ vs ++ cs.drop (i + vs.length))
  | [], cs, i, _ => by simp [setsAt]
  | v :: vs, cs, i, h => by
    simp only [List.length_cons] at h
    have hset : ∀ (cs : List Value) (i : Nat), i < cs.length → setAt cs i v = some (cs.set i v) := by
      intro cs
      induction cs with
      | nil => intro i hi; simp at hi
      | cons c r ih =>
        intro i hi
        cases i with
        | zero => rfl
        | succ i =>
          simp only [setAt]
          rw [ih i (by simpa using hi)]
          rfl
    unfold setsAt
    rw [hset cs i (by omega)]
    show setsAt (cs.set i v) (i + 1) vs = _
    rw [setsAt_eq vs (cs.set i v) (i + 1) (by rw [List.length_set]; omega)]
    congr 1
    rw [List.drop_set_of_lt (by omega), List.length_cons, show i + 1 + vs.length = i + (vs.length + 1) by omega]
    rw [List.take_succ_eq_append_getElem (by rw [List.length_set]; omega), List.getElem_set_self, List.take_set_of_le (Nat.le_refl _)]
    simp
theorem patch_take {α : Type} {L vs : List α} {i N : Nat} (h : i + vs.length ≤ N) (hN : N ≤ L.length) : (L.take i ++ vs ++ L.drop (i + vs.length)).take N = (L.take N).take i ++ vs ++ (L.take N).drop (i + vs.length) := by
  have hl : (L.take i ++ vs).length = i + vs.length := by rw [List.length_append, List.length_take]; omega
  rw [List.take_append, List.take_of_length_le (by omega), hl, List.take_take, Nat.min_eq_left (by omega), List.drop_take]
/-- Several cells of an owned list are stored. -/
theorem Wr.vecNs {sz i : Nat} {xs vs : List Value} (hi : i + vs.length ≤ n * sz) (h0 : 0 < vs.length) (h1 : ∀ v ∈ vs, v.oneCell' = true) : Wr P W I (Vec t sz A n c xs :: R) ((ad A).add i) vs (Vec t sz A n c (xs.take i ++ vs ++ xs.drop (i + vs.length)) :: R) := by
  intro w hw
  obtain ⟨⟨m, ⟨m1, m2, hd, rfl, hv, h2⟩, hsat⟩, hst⟩ := id hw
  have hxl := hv.1
  rcases hv.2 with ⟨_, hn0, _⟩ | ⟨b, cur, rfl, hb, hnc, hcm, hsz, htake⟩
  · rw [hn0, Nat.zero_mul] at hi; omega
  have hb0 : w.heap[b]? = some (.cells cur t (0, 0)) := hsat.own _ _ (PH.le_or_left _ _ _ _ hb)
  have hle : n * sz ≤ c * sz := Nat.mul_le_mul_right _ hnc
  have hcl : cur.toList.length = c * sz := by rw [Array.length_toList]; exact hsz
  have hs1 := setsAt_eq vs cur.toList i (by omega)
  obtain ⟨w', hr, hb', hk', hst'⟩ := storeCells_from (P := P) vs cur.toList _ i 0 w (by simpa using hb0) hs1 h1
  refine ⟨w', ?_, ?_⟩
  · rw [ad_some, Addr.add_lit, Nat.zero_add]
    exact hr
  · refine hw.upd (o := .cells (cur.toList.take i ++ vs ++ cur.toList.drop (i + vs.length)).toArray t (0, 0)) (b := b) (fun mm hm => ?_) hb' (fun j hne o' ho => (hk' j hne).trans ho) hst'
    rcases hm.2 with ⟨he, _, _⟩ | ⟨b', cur', he, hb1, _, _, _, _⟩
    · cases he
    cases he
    refine ⟨by rw [hb1]; rfl, ?_, .inr ⟨b, (cur.toList.take i ++ vs ++ cur.toList.drop (i + vs.length)).toArray, rfl, by simp, hnc, hcm, ?_, ?_⟩⟩
    · simp only [List.length_append, List.length_take, List.length_drop]; omega
    · simp only [List.size_toArray, List.length_append, List.length_take, List.length_drop]; omega
    · rw [List.toList_toArray, ← htake]
      exact patch_take hi (by omega)
end
section
variable {C : Cx} {e : Env} {I : PH} {R : List Res} {K : Act → World → Prop} {Q : Exit → Act → World → Prop} {n c : Nat} {t ty el : TypeId} {pos : String} {after : Array Edge} {g : Option (Nat × Bool)} {x y : Operand} {A : Option Addr}
theorem toList_made (z : Array Value) : ∀ m : Nat, (madeCells z (m * z.size)).toList = (List.replicate m z.toList).flatten
  | 0 => by rw [Nat.zero_mul]; simp [madeCells]
  | m + 1 => by
    have ih := toList_made z m
    unfold madeCells at ih ⊢
    rw [Array.toList_map, Array.toList_range] at ih ⊢
    rw [Nat.succ_mul, List.range_add, List.map_append, ih, List.replicate_succ', List.flatten_append, List.map_map]
    congr 1
    rw [List.flatten_cons, List.flatten_nil, List.append_nil]
    refine List.ext_getElem (by simp) fun i h1 h2 => ?_
    have hi : i < z.size := by simpa using h1
    rw [List.getElem_map, List.getElem_range]
    show z[(m * z.size + i) % z.size]! = _
    rw [Nat.mul_comm, Nat.mul_add_mod, Nat.mod_eq_of_lt hi, getElem!_pos z i hi]
    rfl
/-- make([]T, n), T of several cells. -/
theorem Nx.makeStructs {d : Tmp} {α : Type} (f : α → List Value) (x0 : α) {kl kc : IntKind} {by_ m sz : Nat} {z0 : Value} {i : TypeInfo} (hx : evo e x = some (.int kl (m : Int))) (hy : evo e y = some (.int kc (m : Int))) (ht : C.P.underlying t = some (.slice el))
    (hi : C.P.info? el = some i) (hz : i.zero = some z0) (hs : i.size = sz) (hb : i.bytes = by_) (hz1 : z0.cells.toList = f x0) (hl : (f x0).length = sz) (hlt : Nat.blt d C.n = true) (hbytes : by_ * m ≤ 281474976710656) (h63 : m ≤ maxLen)
    (h : ∀ b, Nx C ((d, .slice (some ⟨b, 0, none⟩) m m) :: e) I (Vec el sz (some ⟨b, 0, none⟩) m m ((List.replicate m x0).flatMap f) :: R) K) : Nx C e I R (opK C.P ⟨some d, .makeSlice t x y, ty, pos, after, g⟩ K Q) := by
  refine Nx.op_new (v := fun b => .slice (some ⟨b, 0, none⟩) m m) (ob := .cells (madeCells z0.cells (m * sz)) el) rfl hlt (fun a w ha hw => ?_) (fun b => ?_)
  · simp only [execOp, ha.eval hx, ha.eval hy]
    refine run_v ?_
    have hbb : (i.bytes : Int) * (m : Int) ≤ 281474976710656 := by
      have h : ((i.bytes * m : Nat) : Int) ≤ 281474976710656 := by rw [hb]; omega
      rwa [Int.natCast_mul] at h
    unfold maxLen at h63
    have hr := run_make (P := C.P) w t el i z0 ht hi hz kl kc m m (by omega) (by omega) hbb (by omega)
    simp only [Int.toNat_natCast, hs] at hr
    exact hr
  · have hsz : z0.cells.size = sz := by rw [← hl, ← hz1, Array.length_toList]
    have hfl : ((List.replicate m x0).flatMap f).length = m * sz := by
      clear h hbytes h63 hx hy
      induction m with
      | zero => simp
      | succ m ih => rw [List.replicate_succ, List.flatMap_cons, List.length_append, ih, hl, Nat.succ_mul]; omega
    have hrep : (List.replicate m z0.cells.toList).flatten = (List.replicate m x0).flatMap f := by
      rw [hz1, List.flatMap_def, List.map_replicate]
    refine (h b).ent (Ent.head fun mm hm => ⟨hfl, .inr ⟨b, _, rfl, hm, Nat.le_refl _, h63, by rw [size_madeCells], ?_⟩⟩)
    have := toList_made z0.cells m
    rw [hsz] at this
    rw [this, hrep, ← hfl, List.take_length]
end
end Go.Eng
/-
  The proof engine, part O: slicing where the order is open.
-/
namespace Go.Eng
variable {C : Cx} {e : Env} {S : World → Prop} {ty t el : TypeId} {pos : String} {after : Array Edge} {g : Option (Nat × Bool)} {x y : Operand} {A : Option Addr} {n c : Nat} {dst : Option Tmp}
theorem QRun.slice_hi {k : IntKind} {h sz : Nat} (hx : evo e x = some (.slice A n c)) (hy : evo e y = some (.int k (h : Int))) (ht : C.P.underlying t = some (.slice el)) (hsz : cellsIn C.P el = some sz) (h2 : h ≤ c) :
    QRun C e S ⟨dst, .slice t x none (some y) none, ty, pos, after, g⟩ (.slice A h c) := fun a w ha _ => by
  simp only [execOp, ha.eval hx, ha.eval hy, Option.map_some, Option.map_none]
  refine run_v ?_
  have := run_slice_of (A := A) (n := n) (c := c) (lo := none) (hi := some (.int k (h : Int))) (l := 0) (h := h) ht hsz w (by simp [Instr.sliceBounds, run_sliceBound, h2])
  rw [offA_zero] at this
  exact this
theorem QRun.slice_lo {k : IntKind} {l sz : Nat} (hx : evo e x = some (.slice A n c)) (hy : evo e y = some (.int k (l : Int))) (ht : C.P.underlying t = some (.slice el)) (hsz : cellsIn C.P el = some sz) (h2 : l ≤ n) :
    QRun C e S ⟨dst, .slice t x (some y) none none, ty, pos, after, g⟩ (.slice (offA A c l sz) (n - l) (c - l)) := fun a w ha _ => by
  simp only [execOp, ha.eval hx, ha.eval hy, Option.map_some, Option.map_none]
  refine run_v ?_
  exact run_slice_of (A := A) (n := n) (c := c) (lo := some (.int k (l : Int))) (hi := none) (l := l) (h := n) ht hsz w (by simp [Instr.sliceBounds, run_sliceBound, h2])
end Go.Eng
/-
  The proof engine, part AM: copy.
-/
namespace Go.Eng
section
variable {C : Cx} {e : Env} {I : PH} {R R' : List Res} {K : Act → World → Prop} {Q : Exit → Act → World → Prop} {n c : Nat} {t ty el : TypeId} {pos : String} {after : Array Edge} {g : Option (Nat × Bool)} {x y : Operand} {A : Option Addr} {d : Tmp}
/-- copy(x, y), of two lists in memory. -/
theorem Nx.copy_ {tys : Array TypeId} {dT sT : TypeId} {a b : Addr} {m c2 sz k : Nat} {cs : List Value} (hx : evo e x = some (.slice (some a) n c)) (hy : evo e y = some (.slice (some b) m c2)) (hty : tys = #[dT, sT]) (ht : C.P.underlying dT = some (.slice el)) (hsz : cellsIn C.P el = some sz) (hlt : Nat.blt d C.n = true)
    (hk : k = Nat.min m n) (hcl : cs.length = k * sz) (hr : Rds C.W I R b cs) (hw : Wr C.P C.W I R a cs R') (h : Nx C ((d, .int .i64 (k : Int)) :: e) I R' K) : Nx C e I R (opK C.P ⟨some d, .call { callee := .builtin .copy, args := #[x, y], argTypes := tys }, ty, pos, after, g⟩ K Q) := by
  subst hty
  intro w0 w ha hst
  obtain ⟨w', hst1, hst'⟩ := hw w hst
  have hl := run_loadCells_list (P := C.P) w b cs (fun j v hj => hr j v hj w hst)
  have hrc : (Builtin.copy_ #[dT, sT] ty #[.slice (some a) n c, .slice (some b) m c2]).run C.P w = .ok (.int .i64 (k : Int)) w' := by
    subst hk
    simp [Builtin.copy_, run_underlying ht, Builtin.lenOf, Builtin.firstCells, cellsIn_run hsz, ← hcl, hl, hst1, goInt]
  unfold opK Oper.wp
  have hrun : (execOp w0.eval ⟨some d, .call { callee := .builtin .copy, args := #[x, y], argTypes := #[dT, sT] }, ty, pos, after, g⟩).run C.P w = .ok (.value (.int .i64 (k : Int))) w' := by
    obtain ⟨cs, hcs⟩ := run_builtin (P := C.P) (w := w) (ρ := w0.eval) (b := .copy) (args := #[x, y]) (dst := some d) (ty := ty) (pos := pos) (after := after) (g := g) (tys := #[dT, sT]) (show [x, y].map w0.eval = [Value.slice (some a) n c, Value.slice (some b) m c2] from by simp only [List.map_cons, List.map_nil, ha.eval hx, ha.eval hy])
    rw [hcs]
    exact run_v hrc
  rw [hrun]
  exact h _ w' (ha.put hlt _) hst'
/-- x[l:], where something is left. -/
theorem QRun.slice_from {S : World → Prop} {dst : Option Tmp} {a : Addr} {k : IntKind} {l sz : Nat} (hx : evo e x = some (.slice (some a) n c)) (hy : evo e y = some (.int k (l : Int))) (ht : C.P.underlying t = some (.slice el)) (hsz : cellsIn C.P el = some sz) (h2 : l < n) (h3 : n ≤ c) :
    QRun C e S ⟨dst, .slice t x (some y) none none, ty, pos, after, g⟩ (.slice (some (a.add (l * sz))) (n - l) (c - l)) := by
  have h := QRun.slice_lo (S := S) (dst := dst) (ty := ty) (pos := pos) (after := after) (g := g) hx hy ht hsz (Nat.le_of_lt h2)
  rw [show offA (some a) c l sz = some (a.add (l * sz)) by unfold offA; rw [if_neg (by omega)]; rfl] at h
  exact h
theorem Rds.vec_take {W : World} {sz q : Nat} {xs : List Value} : Rds W I (Vec t sz A n c xs :: R) (ad A) (xs.take q) := fun j u hj => by
  refine Rd.vec ?_
  rw [List.getElem?_take] at hj
  split at hj
  · exact hj
  · cases hj
theorem Wr.vecNs0 {P : Program} {W : World} {sz b : Nat} {xs vs : List Value} (hi : vs.length ≤ n * sz) (h0 : 0 < vs.length) (h1 : ∀ v ∈ vs, v.oneCell' = true) : Wr P W I (Vec t sz (some ⟨b, 0, none⟩) n c xs :: R) ⟨b, 0, none⟩ vs (Vec t sz (some ⟨b, 0, none⟩) n c (xs.take 0 ++ vs ++ xs.drop (0 + vs.length)) :: R) := by
  have h := Wr.vecNs (P := P) (W := W) (I := I) (R := R) (t := t) (A := some ⟨b, 0, none⟩) (n := n) (c := c) (sz := sz) (i := 0) (xs := xs) (vs := vs) (by omega) h0 h1
  rw [ad_some, Addr.add_lit] at h
  exact h
/-- A list that is filled by copying itself. -/
structure Filled (cx : List Value) (sz n m : Nat) (xs : List Value) : Prop where
  len : xs.length = n * sz
  fill : xs.take (m * sz) = (List.replicate m cx).flatten
  one : ∀ v ∈ xs, v.oneCell' = true
theorem flat_rep_len {cx : List Value} {sz : Nat} (hcx : cx.length = sz) (m : Nat) : (List.replicate m cx).flatten.length = m * sz := by
  induction m with
  | zero => simp
  | succ m ih => rw [List.replicate_succ, List.flatten_cons, List.length_append, ih, hcx, Nat.succ_mul]; omega
theorem Filled.step {cx : List Value} {sz n m k : Nat} {xs : List Value} (hcx : cx.length = sz) (h : Filled cx sz n m xs) (hk : k ≤ m) (hkn : m + k ≤ n) : Filled cx sz n (m + k) (xs.take (m * sz) ++ xs.take (k * sz) ++ xs.drop (m * sz + (xs.take (k * sz)).length)) := by
  have hl := h.len
  have h1 : k * sz ≤ m * sz := Nat.mul_le_mul_right _ hk
  have h2 : (m + k) * sz ≤ n * sz := Nat.mul_le_mul_right _ hkn
  rw [Nat.add_mul] at h2
  have hkl : (xs.take (k * sz)).length = k * sz := by rw [List.length_take]; omega
  have hml : (xs.take (m * sz)).length = m * sz := by rw [List.length_take]; omega
  have hkf : xs.take (k * sz) = (List.replicate k cx).flatten := by
    have : xs.take (k * sz) = (xs.take (m * sz)).take (k * sz) := by rw [List.take_take, Nat.min_eq_left h1]
    rw [this, h.fill]
    obtain ⟨j, rfl⟩ : ∃ j, m = k + j := ⟨m - k, by omega⟩
    rw [← List.replicate_append_replicate, List.flatten_append]
    exact List.take_left' (flat_rep_len hcx k)
  refine ⟨?_, ?_, fun v hv => ?_⟩
  · rw [List.length_append, List.length_append, hml, hkl, List.length_drop]; omega
  · rw [List.take_left' (by rw [List.length_append, hml, hkl, Nat.add_mul]), h.fill, hkf, ← List.flatten_append, List.replicate_append_replicate]
  · rcases List.mem_append.1 hv with hv | hv
    · rcases List.mem_append.1 hv with hv | hv
      · exact h.one v (List.mem_of_mem_take hv)
      · exact h.one v (List.mem_of_mem_take hv)
    · exact h.one v (List.mem_of_mem_drop hv)
theorem Filled.start {cx : List Value} {sz n : Nat} {xs : List Value} (hcx : cx.length = sz) (h1 : ∀ v ∈ cx, v.oneCell' = true) (hl : xs.length = n * sz) (hx : ∀ v ∈ xs, v.oneCell' = true) (hn : 1 ≤ n) : Filled cx sz n 1 (xs.take 0 ++ cx ++ xs.drop (0 + cx.length)) := by
  have h2 : 1 * sz ≤ n * sz := Nat.mul_le_mul_right _ hn
  refine ⟨?_, ?_, fun v hv => ?_⟩
  · rw [List.take_zero, List.nil_append, List.length_append, List.length_drop]; omega
  · rw [List.take_zero, List.nil_append, List.take_left' (by omega)]; simp
  · rw [List.take_zero, List.nil_append] at hv
    rcases List.mem_append.1 hv with hv | hv
    · exact h1 v hv
    · exact hx v (List.mem_of_mem_drop hv)
theorem Filled.done {cx : List Value} {sz n : Nat} {xs : List Value} (h : Filled cx sz n n xs) : xs = (List.replicate n cx).flatten := by
  rw [← h.fill, ← h.len, List.take_length]
end
end Go.Eng
/-
  The proof engine, part AI: conversion to a number without sign, in an open statement.
-/
namespace Go.Eng
theorem QRun.conv_u64 {C : Cx} {e : Env} {S : World → Prop} {ty t u : TypeId} {pos : String} {after : Array Edge} {g : Option (Nat × Bool)} {x : Operand} {k : IntKind} {p : Int} {s : TypeDesc} {dst : Option Tmp} (hx : evo e x = some (.int k p)) (hs : C.P.underlying t = some s) (ht : C.P.underlying u = some (.int .u64)) : QRun C e S ⟨dst, .convert t u x, ty, pos, after, g⟩ (.int .u64 (p % B64)) := fun a w ha _ => by
  simp only [execOp, ha.eval hx]
  refine run_v ?_
  unfold convert
  rw [Sem.run_bind, run_underlying hs, Result.andThen_ok, Sem.run_bind, run_underlying ht, Result.andThen_ok]
  show Result.ok (Value.int .u64 (IntKind.u64.wrap p)) w = _
  rw [IntKind.wrap_u64]
end Go.Eng
/- Contracts of functions of the given program, and lemmas about plain lists and numbers: what the laws of this seat lean on. -/
namespace Go.Proofs.YtpcnapidlhpbkaaGreatDoor
def ml64_ren : Go.Shelf.Ren := ⟨fun | 264 => 119 | n => n, fun | 53 => 102 | 46 => 161 | n => n, fun | n => n⟩
theorem ml64 : Go.Proofs.Lays.n264 Tryz.prog ml64_ren where
  mixed := by kernel_rfl
  f264 := Tryz.func119.trans (congrArg some (by kernel_rfl))
  t46 := Tryz.underlying161
  a46 := Tryz.isAgg161
  z46 := Tryz.sizeOf161
  v46 := Tryz.zeroValue161
  t53 := Tryz.underlying102
  a53 := Tryz.isAgg102
  z53 := Tryz.sizeOf102
  v53 := Tryz.zeroValue102
end Go.Proofs.YtpcnapidlhpbkaaGreatDoor
namespace Go.Proofs.YtpcnapidlhpbkaaGreatDoor
open Go.Eng Go.Sol
attribute [local irreducible] opK wpList Code.wp Exit.then Exit.inBlock fnPost bodyPost Nx Calls Oper.wp Rd Rds Wr Ent Stars Blk Again Vec FnSpec wpMix QRun Stop Upto wpAt
/-! slices.Repeat -/
set_option maxHeartbeats 8000000 in
theorem mulU64_spec (x y : Nat) (hx : x < 18446744073709551616) (hy : y < 18446744073709551616) (I : PH) :
    FnSpec Tryz.prog 119 [.int .u64 x, .int .u64 y] I [] (fun v R' => v = .tuple #[.int .u64 ((x * y / 18446744073709551616 : Nat) : Int), .int .u64 ((x * y % 18446744073709551616 : Nat) : Int)] ∧ R' = []) :=
  FnSpec.of_same fun w _ _ _ => Any.bits_Mul64 ml64 x y hx hy w
set_option maxHeartbeats 2000000 in
set_option maxRecDepth 10000 in
theorem mulU_spec (y : Nat) (hy : y < 18446744073709551616) (I : PH) :
    FnSpec Tryz.prog 129 [.int .u64 1, .int .u64 y] I [] (fun v R' => v = .tuple #[.int .u64 0, .int .u64 (y : Int)] ∧ R' = []) := by
  have hM := mulU64_spec 1 y (by omega) hy I
  rw [Nat.one_mul, Nat.div_eq_of_lt hy, Nat.mod_eq_of_lt hy] at hM
  refine FnSpec.enterP Tryz.func129 rfl Tryz.ntmps129 rfl fun w F => ?_
  repeat' first
    | ((with_reducible refine Nx.is_wp ?_); first | refine Nx.wo ?_ | refine Nx.zp (fun hc => ?_) (fun hc => ?_))
    | (refine Nx.zo ?_; first | refine Nx.opr rfl rfl ?_ | (refine Nx.call (Rpre := []) rfl rfl rfl (by kernel_rfl) rfl hM (Ent.refl _) ?_; rintro _ _ ⟨rfl, rfl⟩) | refine Nx.so ?_ | refine Nx.sb (fun bx => ?_) | refine Nx.sa (fun A2 c2 => ?_))
    | ((with_reducible refine Nx.is_at ?_); first | refine Nx.a ?_ | refine Nx.zd ?_ | refine Nx.zs (fun hc => ?_) (fun hc => ?_))
    | ((with_reducible refine Nx.is_mix ?_); first | refine Nx.m ?_ | refine Nx.zm ?_ | refine Nx.zt (fun hc => ?_) (fun hc => ?_))
    | refine Nx.zx ?_ | fail
  exact Nx.ret_fn rfl [] ⟨rfl, rfl⟩ (by (exact Ent.auto))
end Go.Proofs.YtpcnapidlhpbkaaGreatDoor
