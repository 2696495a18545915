/- Contracts of functions of the given program, and lemmas. -/
import Derived.Test.YtpcnapidlhpbkaaGreatDoorBq9
set_option maxHeartbeats 32000000
namespace Go.Proofs.YtpcnapidlhpbkaaGreatDoor
open Go.Eng Go.Sol
attribute [local irreducible] opK wpList Code.wp Exit.then Exit.inBlock fnPost bodyPost Nx Calls Oper.wp Rd Rds Wr Ent Stars Blk Again Vec FnSpec wpMix QRun Stop Upto wpAt
theorem right_in {n m : Nat} {cell : Nat} {up : Bool} {x w : Nat → Rat} {D : Int} {q : Bl.Eqs} (hqn : q.cnt = n) (hqm : q.m = m) (hc : cell < n) (hz : Bl.PrSz q x w D) {I : PH} {b' : Nat} {A' : Option Addr} {c' : Nat} (hp : Rats I (some ⟨b', 0, none⟩) n (rl n x)) (hw : Rats I A' c' (rl m w)) :
    PrIn I ⟨cell, up, rawOf (x cell), some ⟨b', 0, none⟩, n, (rl n x).map rawOf, A', c', (rl m w).map rawOf⟩ := by
  have hle := hz.le
  have hrx : ∀ k, k < n → RB (x k) := fun k hk => by
    obtain ⟨p, h1, h2⟩ := hz.pnt k (by omega)
    exact Bl.rb_of hz.ne h1 (by omega) (by omega)
  have hrw : ∀ j, j < m → RB (w j) := fun j hj => by
    obtain ⟨p, h1, h2⟩ := hz.wgt j (by omega)
    exact Bl.rb_of hz.ne h1 (by omega) (by omega)
  refine ⟨Raws.of hp, Raws.of hw, rawOf_i64 (hrx cell hc), fun y hy => ?_, fun y hy => ?_⟩
  · obtain ⟨z, hz', rfl⟩ := List.mem_map.1 hy
    obtain ⟨j, hj, rfl⟩ := List.mem_map.1 hz'
    exact rawOf_i64 (hrx j (List.mem_range.1 hj))
  · obtain ⟨z, hz', rfl⟩ := List.mem_map.1 hy
    obtain ⟨j, hj, rfl⟩ := List.mem_map.1 hz'
    exact rawOf_i64 (hrw j (List.mem_range.1 hj))
theorem bcheck_right {n : Nat} {l : List EqR} {cell : Nat} {up : Bool} {x w : Nat → Rat} {D : Int} (hb : BEq n l) (hv : validB n l = true) (hc : cell < n) (h : Bl.PrOk (toQ n l) cell up x w) (hz : Bl.PrSz (toQ n l) x w D) (A : Option Addr) (c : Nat) (I : PH) (hT : TabI I) (hl : Eqs I A c l) (b' : Nat) (A' : Option Addr) (c' : Nat) (hp : Rats I (some ⟨b', 0, none⟩) n (rl n x)) (hw : Rats I A' c' (rl l.length w)) :
    FnSpec Tryz.prog 14 [.int .i64 (n : Int), .slice A l.length c, proofV cell up (x cell) (.slice (some ⟨b', 0, none⟩) n n) (.slice A' l.length c')] I [] (fun v R' => v = .bool true ∧ R' = []) := by
  have := bCheck_spec (n : Int) A c l ⟨cell, up, rawOf (x cell), some ⟨b', 0, none⟩, n, (rl n x).map rawOf, A', c', (rl l.length w).map rawOf⟩ I hl (right_in rfl rfl hc hz hp hw) hT
  rw [chkP_ok hb hv hc h hz] at this
  unfold PrM.V at this
  dsimp only at this
  rw [List.length_map, List.length_map, rl_len, rl_len] at this
  exact this
def ProofPost (n : Nat) (l : List EqR) (cell : Nat) (up : Bool) (v : Value) (R' : List Res) : Prop :=
  ∃ (x w : Nat → Rat) (D : Int) (b' : Nat) (A' : Option Addr) (c' : Nat), Bl.PrOk (toQ n l) cell up x w ∧ Bl.PrSz (toQ n l) x w D ∧ Bl.IsOpt (toQ n l) cell up (x cell) ∧ v = .tuple #[proofV cell up (x cell) (.slice (some ⟨b', 0, none⟩) n n) (.slice A' l.length c'), .int .i64 0] ∧ R' = [ratsR (some ⟨b', 0, none⟩) n n (rl n x), ratsR A' l.length c' (rl l.length w)]
end Go.Proofs.YtpcnapidlhpbkaaGreatDoor
namespace Go.Proofs.YtpcnapidlhpbkaaGreatDoor
open Go.Eng
attribute [local irreducible] opK wpList Code.wp Exit.then Exit.inBlock fnPost bodyPost Nx Calls Oper.wp Rd Rds Wr Ent Stars Blk Again Vec FnSpec wpMix QRun Stop Upto wpAt
structure RA where
  ta : TA
  Ax : Option Addr
  cx : Nat
abbrev rtC (q : Bl.Eqs) (ra : RA) : List Value := [.slice ra.ta.Ar q.m ra.ta.cr, .slice ra.Ax q.m ra.cx, .slice ra.ta.Ab q.m ra.ta.cb]
abbrev rtV (q : Bl.Eqs) (ra : RA) : Value := .agg #[.slice ra.ta.Ar q.m ra.ta.cr, .slice ra.Ax q.m ra.cx, .slice ra.ta.Ab q.m ra.ta.cb]
def rrowF (q : Bl.Eqs) (ta : TA) (x : RowT) : Res := ratsR (ta.ra x.1).1 q.N (ta.ra x.1).2 (rl q.N x.2)
def rrowsR (q : Bl.Eqs) (ta : TA) (T : Nat → Nat → Rat) : Res := Stars ((rowsL q T).map (rrowF q ta))
def rightR (q : Bl.Eqs) (ra : RA) (T : Nat → Nat → Rat) : Res := ratsR ra.Ax q.m ra.cx (rl q.m fun i => T i q.N)
section
variable {C : Cx} {e : Env} {I : PH} {R : List Res} {K : Act → World → Prop} {Q : Exit → Act → World → Prop} {t ty : TypeId} {pos : String} {after : Array Edge} {g : Option (Nat × Bool)} {x y : Operand} {q : Bl.Eqs} {ta : TA} {ra : RA} {T : Nat → Nat → Rat} {i kk : Nat}
theorem rnum_rds {W : World} (k : Nat) (hk : nthL R k = some (rrowsR q ta T)) (hi : i < q.m) (hkk : kk < q.N) : Rds W I R ((ad (ta.ra i).1).add (kk * 2)) (ratC (T i kk)) := by
  have := Rds.rowN (W := W) (I := I) (R := R) (f := ratC) (r := rrowF q ta) (bs := rowsL q T) (j := i) (sz := 2) (l := rl q.N (T i)) (i := kk) (A := (ta.ra i).1) (n := q.N) (c := (ta.ra i).2) (el := 24) k ratC_len hk (by rw [rowsL_len]; exact hi) (by rw [rowsL_at hi]; rfl) (by rw [rl_len]; exact hkk)
  rwa [rl_at _ hkk] at this
theorem Nx.rstore_num (k : Nat) {z : Rat} (hx : evo e x = some (.pointer (some ((ad (ta.ra i).1).add (kk * 2))))) (hy : evo e y = some (ratV z)) (hn : Go.Eng.cellsIn C.P t = some 2) (hk : nthL R k = some (rrowsR q ta T)) (hi : i < q.m) (hkk : kk < q.N)
    (h : Nx C e I (rrowsR q ta (upd2 T i kk z) :: R.eraseIdx k) K) : Nx C e I R (opK C.P ⟨none, .store t x y, ty, pos, after, g⟩ K Q) := by
  refine Nx.store_row2 (f := ratC) (a := fun q => .int .i64 q.num) (b := fun q => .int .i64 q.den) (r := rrowF q ta) (bs := rowsL q T) (j := i) (y' := (i, updF (T i) kk z)) (l := rl q.N (T i)) (i := kk) (z := z) (A := (ta.ra i).1) (n := q.N) (c := (ta.ra i).2) (el := 24) k hx hy rfl (fun _ => rfl) rfl rfl hn hk (by rw [rowsL_len]; exact hi) (by rw [rowsL_at hi]; rfl) (by rw [rl_set]; rfl) (by rw [rl_len]; exact hkk) hkk ?_
  rw [rowsL_set]
  exact h
theorem right_rds {W : World} (k : Nat) (hk : nthL R k = some (rightR q ra T)) (hi : i < q.m) : Rds W I R ((ad ra.Ax).add (i * 2)) (ratC (T i q.N)) := by
  have := Rds.vecN (W := W) (I := I) (R := R) (f := ratC) (t := 24) (A := ra.Ax) (n := q.m) (c := ra.cx) (l := rl q.m fun i => T i q.N) (i := i) k ratC_len hk (by rw [rl_len]; exact hi)
  rwa [rl_at _ hi] at this
theorem Nx.store_right (k : Nat) {z : Rat} (hx : evo e x = some (.pointer (some ((ad ra.Ax).add (i * 2))))) (hy : evo e y = some (ratV z)) (hn : Go.Eng.cellsIn C.P t = some 2) (hk : nthL R k = some (rightR q ra T)) (hi : i < q.m)
    (h : Nx C e I (rightR q ra (upd2 T i q.N z) :: R.eraseIdx k) K) : Nx C e I R (opK C.P ⟨none, .store t x y, ty, pos, after, g⟩ K Q) := by
  refine Nx.store_el2 (f := ratC) (a := fun q => .int .i64 q.num) (b := fun q => .int .i64 q.den) (A := ra.Ax) (n := q.m) (c := ra.cx) (el := 24) (l := rl q.m fun i => T i q.N) (i := i) (z := z) k hx hy rfl (fun _ => rfl) rfl rfl hn hk (by rw [rl_len]; exact hi) hi ?_
  rw [rl_set]
  have e1 : rl q.m (updF (fun i => T i q.N) i z) = rl q.m fun a => upd2 T i q.N z a q.N := rl_congr fun a _ => by
    unfold updF upd2
    by_cases h : a = i
    · rw [if_pos h, if_pos h]; unfold updF; rw [if_pos rfl]
    · rw [if_neg h, if_neg h]
  rw [e1]
  exact h
end
theorem rrows_congr {q : Bl.Eqs} {ta : TA} {T T' : Nat → Nat → Rat} (h : ∀ i j, i < q.m → j < q.N → T i j = T' i j) : rrowsR q ta T = rrowsR q ta T' := by
  unfold rrowsR rowsL
  rw [List.map_map, List.map_map]
  congr 1
  refine List.map_congr_left fun i hi => ?_
  show rrowF q ta (i, T i) = rrowF q ta (i, T' i)
  unfold rrowF
  rw [rl_congr (f := T i) (g := T' i) fun j hj => h i j (List.mem_range.1 hi) hj]
theorem right_congr {q : Bl.Eqs} {ra : RA} {T T' : Nat → Nat → Rat} (h : ∀ i, i < q.m → T i q.N = T' i q.N) : rightR q ra T = rightR q ra T' := by
  unfold rightR
  rw [rl_congr (f := fun i => T i q.N) (g := fun i => T' i q.N) fun i hi => h i hi]
theorem r1_end {q : Bl.Eqs} {ta : TA} {T : Nat → Nat → Rat} {r : Nat} {p : Rat} : rrowsR q ta (T1 T r p q.N) = rrowsR q ta (T1 T r p (q.N + 1)) := rrows_congr fun i j _ hj => by
  unfold T1
  by_cases h : i = r
  · rw [if_pos ⟨h, hj⟩, if_pos ⟨h, by omega⟩]
  · rw [if_neg fun hh => h hh.1, if_neg fun hh => h hh.1]
theorem r1_right {q : Bl.Eqs} {ra : RA} {T : Nat → Nat → Rat} {r : Nat} {p : Rat} : rightR q ra (upd2 T r q.N (T r q.N / p)) = rightR q ra (T1 T r p (q.N + 1)) := right_congr fun i _ => by
  unfold upd2 T1 updF
  by_cases h : i = r
  · rw [if_pos h, if_pos rfl, if_pos ⟨h, by omega⟩]
  · rw [if_neg h, if_neg fun hh => h hh.1]
theorem r2_end {q : Bl.Eqs} {ta : TA} {T : Nat → Nat → Rat} {r e i : Nat} : rrowsR q ta (T2 T q.N r e i q.N) = rrowsR q ta (T2 T q.N r e (i + 1) 0) := rrows_congr fun a j _ hj => by
  unfold T2
  by_cases h : a = r
  · rw [if_pos h, if_pos h]
  · rw [if_neg h, if_neg h]
    by_cases h2 : a < i ∨ a = i
    · rw [if_pos ⟨h2.elim .inl fun h3 => .inr ⟨h3, hj⟩, by omega⟩, if_pos ⟨.inl (by omega), by omega⟩]
    · rw [if_neg fun hh => h2 (hh.1.elim .inl fun h3 => .inr h3.1), if_neg fun hh => h2 (by omega)]
theorem r2_right {q : Bl.Eqs} {ra : RA} {T : Nat → Nat → Rat} {r e i : Nat} (hir : i ≠ r) : rightR q ra (upd2 (T2 T q.N r e i 0) i q.N (T i q.N - T i e * (T r q.N / T r e))) = rightR q ra (T2 T q.N r e (i + 1) 0) := right_congr fun a _ => by
  unfold upd2 updF T2
  by_cases h : a = i
  · subst h
    rw [if_pos rfl, if_pos rfl, if_neg hir, if_pos ⟨.inl (by omega), by omega⟩]
  · rw [if_neg h]
    by_cases h3 : a = r
    · rw [if_pos h3, if_pos h3]
    · rw [if_neg h3, if_neg h3]
      by_cases h2 : a < i
      · rw [if_pos ⟨.inl h2, by omega⟩, if_pos ⟨.inl (by omega), by omega⟩]
      · rw [if_neg fun hh => h2 (by omega), if_neg fun hh => h2 (by omega)]
theorem r2_fin {q : Bl.Eqs} {ta : TA} {s : Bl.Tab} {r e : Nat} : rrowsR q ta (T2 s.T q.N r e q.m 0) = rrowsR q ta (Bl.piv s r e).T := rrows_congr fun i j hi hj => by
  unfold T2
  rw [Bl.piv_T]
  by_cases hir : i = r
  · rw [if_pos hir, if_pos (by omega), if_pos hir]
  · rw [if_neg hir, if_pos ⟨.inl hi, by omega⟩, if_neg hir]
theorem r2_fin_right {q : Bl.Eqs} {ra : RA} {s : Bl.Tab} {r e : Nat} : rightR q ra (T2 s.T q.N r e q.m 0) = rightR q ra (Bl.piv s r e).T := right_congr fun i hi => by
  unfold T2
  rw [Bl.piv_T]
  by_cases hir : i = r
  · rw [if_pos hir, if_pos (by omega), if_pos hir]
  · rw [if_neg hir, if_pos ⟨.inl hi, by omega⟩, if_neg hir]
theorem neg_num (z : Rat) : [Value.int .i64 (-z.num), Value.int .i64 z.den] = ratC (-z) := rfl
theorem RB_neg {z : Rat} (h : RB z) : RB (-z) := ⟨by show (-z.num).natAbs ≤ _; rw [Int.natAbs_neg]; exact h.1, h.2⟩
set_option maxRecDepth 10000 in
theorem rpivot_spec (q : Bl.Eqs) (hq : q.Small) (ra : RA) (s : Bl.Tab) (hs : Bl.Inv q s) (r e : Nat) (hr : r < q.m) (he : e < q.cnt) (hne : s.T r e ≠ 0) (hs' : Bl.Inv q (Bl.piv s r e)) (I : PH)
    (ho : SliceOf (fun i : Nat => Value.slice (ra.ta.ra i).1 q.N (ra.ta.ra i).2) I ra.ta.Ar ra.ta.cr (List.range q.m)) (hra : ∀ i, i < q.m → (ra.ta.ra i).1.isSome = true) (hAx : ra.Ax.isSome = true) (hAb : ra.ta.Ab.isSome = true) :
    FnSpec Tryz.prog 94 [rtV q ra, .int .i64 (r : Int), .int .i64 (e : Int)] I [rrowsR q ra.ta s.T, rightR q ra s.T, basisR q ra.ta s.B]
      (fun _ R' => R' = [rrowsR q ra.ta (Bl.piv s r e).T, rightR q ra (Bl.piv s r e).T, basisR q ra.ta (Bl.piv s r e).B]) := by
  obtain ⟨ta, Ax, cx⟩ := ra
  dsimp only at ho hra hAx hAb ⊢
  have h1 := hq.cnt
  have h2 := hq.m
  have hNb : q.N ≤ 20 := by show q.cnt + q.m ≤ 20; omega
  have heN : e < q.N := by show e < q.cnt + q.m; omega
  obtain ⟨D, hD⟩ := hs.num hq
  obtain ⟨D', hD'⟩ := hs'.num hq
  have ror := fun (W : World) (Q : List Res) (i : Nat) (hi : i < q.m) => (by
    have := ho.rd (W := W) (R := Q) (k := i) (by rw [List.length_range]; exact hi)
    rwa [range_getD hi] at this : Rd W I Q ((ad ta.Ar).add (i * 1)) (.slice (ta.ra i).1 q.N (ta.ra i).2))
  have hAr : ta.Ar.isSome = true := ho.isSome (by rw [List.length_range]; omega)
  have ro1 := fun (W : World) (Q : List Res) => ror W Q r hr
  have hrr := hra r hr
  obtain ⟨p, hp⟩ : ∃ p, p = s.T r e := ⟨_, rfl⟩
  have hpe : ∀ {W : World} {R : List Res} (k : Nat), nthL R k = some (rrowsR q ta s.T) → Rds W I R ((ad (ta.ra r).1).add (e * 2)) (ratC p) := fun k hk => by rw [hp]; exact rnum_rds k hk hr heN
  refine FnSpec.enterP Tryz.func94 rfl Tryz.ntmps94 rfl fun w F => ?_
  repeat' first
    | ((with_reducible refine Nx.is_wp ?_); first | refine Nx.wo ?_ | refine Nx.zp (fun hc => ?_) (fun hc => ?_))
    | (refine Nx.zo ?_; first | refine Nx.opr rfl rfl ?_ | refine Nx.indexAddr_nat (A := ta.Ar) (i := r) (sz := 1) rfl rfl rfl rfl rfl hr hAr ?_ | refine Nx.load rfl rfl rfl (ro1 _ _) ?_ | refine Nx.indexAddr_nat (A := (ta.ra r).1) (i := e) (sz := 2) rfl rfl rfl rfl rfl heN hrr ?_ | refine Nx.loads rfl rfl rfl rfl (hpe 1 rfl) rfl ?_ | refine Nx.so ?_ | refine Nx.sb (fun bx => ?_) | refine Nx.sa (fun A2 c2 => ?_))
    | refine Nx.za ?_ | refine Nx.zr (fun hc => ?_) (fun hc => ?_)
    | refine Nx.zq ?_ | refine Nx.zu (fun hc => ?_) (fun hc => ?_)
    | refine Nx.zx ?_ | fail
  rename_i b3
  revert bx; intro b6
  have hpne : p ≠ 0 := by rw [hp]; exact hne
  have hRBp : RB p := by rw [hp]; exact hD.rb hr (by omega)
  refine Nx.p_loop (σ := Nat) (fun k => [(1, .int .i64 (r : Int)), (2, .int .i64 (e : Int)), (3, .pointer (some ⟨b3, 0, none⟩)), (6, .pointer (some ⟨b6, 0, none⟩)), (24, .int .i64 (q.N : Int)), (25, .int .i64 (k : Int))])
    (fun k => [Blk b6 24 (ratC p), rrowsR q ta (T1 s.T r p k), Blk b3 87 (rtC q ⟨ta, Ax, cx⟩), rightR q ⟨ta, Ax, cx⟩ s.T, basisR q ta s.B, F]) (fun k => k ≤ q.N) (fun k => q.N - k) 0 rfl (Nat.zero_le _) ⟨rfl, rfl, rfl, rfl, rfl, rfl, trivial⟩ (by rw [T1_zero]; (exact Ent.auto)) ?_
  intro k hk
  have hk : k ≤ q.N := hk
  by_cases hkN : k < q.N
  · obtain ⟨xk, hxk⟩ : ∃ xk, xk = s.T r k := ⟨_, rfl⟩
    obtain ⟨qk, hqk⟩ : ∃ qk, qk = xk / p := ⟨_, rfl⟩
    have hxe : ∀ (W : World) (R : List Res) (j : Nat), nthL R j = some (rrowsR q ta (T1 s.T r p k)) → Rds W I R ((ad (ta.ra r).1).add (k * 2)) (ratC xk) := fun W R j hj => by
      have := rnum_rds (W := W) (I := I) j hj hr hkN
      rw [show T1 s.T r p k r k = xk by rw [hxk]; unfold T1; rw [if_neg (by omega)]] at this
      exact this
    have hM := rdiv_spec xk p (by rw [hxk]; exact hD.rb hr (by omega)) hRBp hpne (by rw [hxk, hp]; exact hD.rbq hr hr (by omega) heN hne) I
    rw [← hqk] at hM
    have hup := T1_succ s.T r p k
    rw [← hxk, ← hqk] at hup
    repeat' first
      | ((with_reducible refine Nx.is_wp ?_); first | refine Nx.wo ?_ | refine Nx.p_drawF (id := 5) rfl [0, 1, 2, 3, 4, 5, 6, 7, 8, 9, 10, 11, 12, 13, 14, 15, 16] [15] [17] _ rfl rfl (by kernel_rfl) (by kernel_rfl) rfl PanicOk.auto (Ent.refl _) ?_ | refine Nx.p_drawF (id := 7) rfl [0, 1, 2, 3, 4, 5, 6, 7, 8, 9, 10] [9] [11] _ rfl rfl (by kernel_rfl) (by kernel_rfl) rfl PanicOk.auto (Ent.refl _) ?_ | refine Nx.p_drawF (id := 17) rfl [0, 1, 2, 3, 4, 5, 6, 7, 8, 9, 10, 11, 12, 13, 14, 15, 16, 17, 18, 19, 20, 21, 22, 23, 24, 25] [23, 24] [26] _ rfl rfl (by kernel_rfl) (by kernel_rfl) rfl PanicOk.auto (Ent.refl _) ?_ | refine Nx.p_drawF (id := 19) rfl [0, 1, 2, 3, 4, 5, 6, 7, 8, 9, 10, 11, 12, 13, 14, 15, 16] [14, 15] [17] _ rfl rfl (by kernel_rfl) (by kernel_rfl) rfl PanicOk.auto (Ent.refl _) ?_ | refine Nx.zp (fun hc => ?_) (fun hc => ?_))
      | (refine Nx.zo ?_; first | refine Nx.opr rfl rfl ?_ | refine Nx.callv rfl rfl rfl (by kernel_rfl) rfl hM ?_ | refine Nx.indexAddr_nat (A := (ta.ra r).1) (i := k) (sz := 2) rfl rfl rfl rfl rfl hkN hrr ?_ | refine Nx.rstore_num 1 rfl rfl rfl rfl hr hkN ?_ | refine Nx.so ?_ | refine Nx.sb (fun bx => ?_) | refine Nx.sa (fun A2 c2 => ?_))
      | refine Nx.za ?_ | refine Nx.zr (fun hc => ?_) (fun hc => ?_)
      | ((with_reducible refine Nx.is_mix ?_); first | refine Nx.m_quiet rfl rfl rfl rfl rfl (by first | exact QRun.opr rfl | exact QRun.idx (A := ta.Ar) (i := r) (sz := 1) rfl rfl rfl rfl hr hAr | exact QRun.load rfl rfl (ro1 _ _) | exact QRun.idx (A := (ta.ra r).1) (i := k) (sz := 2) rfl rfl rfl rfl hkN hrr | exact QRun.loads rfl rfl rfl (hxe _ _ 1 rfl) rfl | exact QRun.loads rfl rfl rfl (Rds.cut 0 2 rfl rfl) rfl) ?_ | refine Nx.m_quiet_do rfl rfl rfl rfl rfl rfl rfl (by first | exact QRun.opr rfl | exact QRun.idx (A := ta.Ar) (i := r) (sz := 1) rfl rfl rfl rfl hr hAr | exact QRun.load rfl rfl (ro1 _ _) | exact QRun.idx (A := (ta.ra r).1) (i := k) (sz := 2) rfl rfl rfl rfl hkN hrr | exact QRun.loads rfl rfl rfl (hxe _ _ 1 rfl) rfl | exact QRun.loads rfl rfl rfl (Rds.cut 0 2 rfl rfl) rfl) ?_ | refine Nx.m ?_ | refine Nx.zm ?_ | refine Nx.zt (fun hc => ?_) (fun hc => ?_))
      | refine Nx.zx ?_ | fail
    exact Nx.again (k + 1) hkN (by omega) ⟨rfl, rfl, rfl, rfl, rfl, rfl, trivial⟩ (by rw [← hup]; (exact Ent.auto))
  obtain rfl : k = q.N := by omega
  rw [r1_end]
  have hb1 : ∀ (W : World) (R : List Res) (j : Nat), nthL R j = some (rightR q ⟨ta, Ax, cx⟩ s.T) → Rds W I R ((ad Ax).add (r * 2)) (ratC (s.T r q.N)) := fun W R j hj => right_rds (ra := ⟨ta, Ax, cx⟩) j hj hr
  obtain ⟨xr, hxr⟩ : ∃ xr, xr = s.T r q.N := ⟨_, rfl⟩
  obtain ⟨qr, hqr⟩ : ∃ qr, qr = xr / p := ⟨_, rfl⟩
  have hrr1 := r1_right (q := q) (ra := ⟨ta, Ax, cx⟩) (T := s.T) (r := r) (p := p)
  rw [← hxr] at hb1 hrr1
  rw [← hqr] at hrr1
  have hMr := rdiv_spec xr p (by rw [hxr]; exact hD.rb hr (Nat.le_refl _)) hRBp hpne (by rw [hxr, hp]; exact hD.rbq hr hr (Nat.le_refl _) heN hne) I
  rw [← hqr] at hMr
  repeat' first
    | ((with_reducible refine Nx.is_wp ?_); first | refine Nx.p_stopr 8 rfl ?_ | refine Nx.wo ?_ | refine Nx.p_drawF (id := 5) rfl [0, 1, 2, 3, 4, 5, 6, 7, 8, 9, 10, 11, 12, 13, 14, 15, 16] [15] [17] _ rfl rfl (by kernel_rfl) (by kernel_rfl) rfl PanicOk.auto (Ent.refl _) ?_ | refine Nx.p_drawF (id := 7) rfl [0, 1, 2, 3, 4, 5, 6, 7, 8, 9, 10] [9] [11] _ rfl rfl (by kernel_rfl) (by kernel_rfl) rfl PanicOk.auto (Ent.refl _) ?_ | refine Nx.p_drawF (id := 17) rfl [0, 1, 2, 3, 4, 5, 6, 7, 8, 9, 10, 11, 12, 13, 14, 15, 16, 17, 18, 19, 20, 21, 22, 23, 24, 25] [23, 24] [26] _ rfl rfl (by kernel_rfl) (by kernel_rfl) rfl PanicOk.auto (Ent.refl _) ?_ | refine Nx.p_drawF (id := 19) rfl [0, 1, 2, 3, 4, 5, 6, 7, 8, 9, 10, 11, 12, 13, 14, 15, 16] [14, 15] [17] _ rfl rfl (by kernel_rfl) (by kernel_rfl) rfl PanicOk.auto (Ent.refl _) ?_ | refine Nx.zp (fun hc => ?_) (fun hc => ?_))
    | (refine Nx.zo ?_; first | refine Nx.opr rfl rfl ?_ | refine Nx.callv rfl rfl rfl (by kernel_rfl) rfl hMr ?_ | refine Nx.indexAddr_nat (A := Ax) (i := r) (sz := 2) rfl rfl rfl rfl rfl hr hAx ?_ | refine Nx.store_right (ra := ⟨ta, Ax, cx⟩) 3 rfl rfl rfl rfl hr ?_ | refine Nx.so ?_ | refine Nx.sb (fun bx => ?_) | refine Nx.sa (fun A2 c2 => ?_))
    | refine Nx.za ?_ | refine Nx.zr (fun hc => ?_) (fun hc => ?_)
    | ((with_reducible refine Nx.is_mix ?_); first | refine Nx.m_quiet rfl rfl rfl rfl rfl (by first | exact QRun.opr rfl | exact QRun.idx (A := Ax) (i := r) (sz := 2) rfl rfl rfl rfl hr hAx | exact QRun.loads rfl rfl rfl (hb1 _ _ 3 rfl) rfl | exact QRun.loads rfl rfl rfl (Rds.cut 0 2 rfl rfl) rfl) ?_ | refine Nx.m_quiet_do rfl rfl rfl rfl rfl rfl rfl (by first | exact QRun.opr rfl | exact QRun.idx (A := Ax) (i := r) (sz := 2) rfl rfl rfl rfl hr hAx | exact QRun.loads rfl rfl rfl (hb1 _ _ 3 rfl) rfl | exact QRun.loads rfl rfl rfl (Rds.cut 0 2 rfl rfl) rfl) ?_ | refine Nx.m ?_ | refine Nx.zm ?_ | refine Nx.zt (fun hc => ?_) (fun hc => ?_))
    | refine Nx.zx ?_ | fail
  refine Nx.unstop ?_
  refine Nx.ent (R' := [rrowsR q ta (T2 s.T q.N r e 0 0), rightR q ⟨ta, Ax, cx⟩ (T2 s.T q.N r e 0 0), Blk b3 87 (rtC q ⟨ta, Ax, cx⟩), basisR q ta s.B, F]) (by rw [← T2_zero, ← hp, ← hrr1]; (exact Ent.auto)) ?_
  clear hpe hRBp hMr hrr1 hb1
  repeat' first
    | ((with_reducible refine Nx.is_wp ?_); first | refine Nx.wo ?_ | refine Nx.zp (fun hc => ?_) (fun hc => ?_))
    | (refine Nx.zo ?_; first | refine Nx.opr rfl rfl ?_ | refine Nx.so ?_ | refine Nx.sb (fun bx => ?_) | refine Nx.sa (fun A2 c2 => ?_))
    | refine Nx.za ?_ | refine Nx.zr (fun hc => ?_) (fun hc => ?_)
    | refine Nx.zq ?_ | refine Nx.zu (fun hc => ?_) (fun hc => ?_)
    | refine Nx.zx ?_ | fail
  refine Nx.p_loop (σ := Nat) (fun i => [(1, .int .i64 (r : Int)), (2, .int .i64 (e : Int)), (3, .pointer (some ⟨b3, 0, none⟩)), (59, .int .i64 (q.m : Int)), (60, .int .i64 (i : Int))])
    (fun i => [rrowsR q ta (T2 s.T q.N r e i 0), rightR q ⟨ta, Ax, cx⟩ (T2 s.T q.N r e i 0), Blk b3 87 (rtC q ⟨ta, Ax, cx⟩), basisR q ta s.B, F]) (fun i => i ≤ q.m) (fun i => q.m - i) 0 rfl (Nat.zero_le _) ⟨rfl, rfl, rfl, rfl, rfl, trivial⟩ (by (exact Ent.auto)) ?_
  intro i hi
  have hi : i ≤ q.m := hi
  by_cases him : i < q.m
  case neg =>
    obtain rfl : i = q.m := by omega
    rw [r2_fin, r2_fin_right]
    have hbs : (basL q s.B).set r (e : Int) = basL q (Bl.piv s r e).B := basL_set
    repeat' first
      | ((with_reducible refine Nx.is_wp ?_); first | refine Nx.wo ?_ | refine Nx.zp (fun hc => ?_) (fun hc => ?_))
      | (refine Nx.zo ?_; first | refine Nx.opr rfl rfl ?_ | refine Nx.indexAddr_nat (A := ta.Ab) (i := r) (sz := 1) rfl rfl rfl rfl rfl hr hAb ?_ | refine Nx.store_ints 3 (A := ta.Ab) (i := r) (l := basL q s.B) (z := (e : Int)) rfl rfl rfl rfl hr ?_ | refine Nx.so ?_ | refine Nx.sb (fun bx => ?_) | refine Nx.sa (fun A2 c2 => ?_))
      | refine Nx.za ?_ | refine Nx.zr (fun hc => ?_) (fun hc => ?_)
      | refine Nx.zq ?_ | refine Nx.zu (fun hc => ?_) (fun hc => ?_)
      | refine Nx.zx ?_ | fail
    refine Nx.end_fn rfl [_, _, _] rfl ?_
    rw [hbs]
    unfold basisR
    (exact Ent.auto)
  have roi := fun (W : World) (Q : List Res) => ror W Q i him
  have hri := hra i him
  obtain ⟨z, hz⟩ : ∃ z, z = T2 s.T q.N r e i 0 i e := ⟨_, rfl⟩
  have hze : ∀ (W : World) (R : List Res) (j : Nat), nthL R j = some (rrowsR q ta (T2 s.T q.N r e i 0)) → Rds W I R ((ad (ta.ra i).1).add (e * 2)) (ratC z) := fun W R j hj => by
    have := rnum_rds (W := W) (I := I) j hj him heN
    rwa [← hz] at this
  by_cases hir : i = r
  · subst hir
    have hsk := T2_skip s.T (N := q.N) (r := i) (e := e) (i := i) (.inl rfl)
    repeat' first
      | ((with_reducible refine Nx.is_wp ?_); first | refine Nx.wo ?_ | refine Nx.zp (fun hc => ?_) (fun hc => ?_))
      | (refine Nx.zo ?_; first | refine Nx.opr rfl rfl ?_ | refine Nx.indexAddr_nat (A := ta.Ar) (i := i) (sz := 1) rfl rfl rfl rfl rfl him hAr ?_ | refine Nx.load rfl rfl rfl (roi _ _) ?_ | refine Nx.indexAddr_nat (A := (ta.ra i).1) (i := e) (sz := 2) rfl rfl rfl rfl rfl heN hri ?_ | refine Nx.loads rfl rfl rfl rfl (hze _ _ 0 rfl) rfl ?_ | refine Nx.so ?_ | refine Nx.sb (fun bx => ?_) | refine Nx.sa (fun A2 c2 => ?_))
      | refine Nx.za ?_ | refine Nx.zr (fun hc => ?_) (fun hc => ?_)
      | refine Nx.zq ?_ | refine Nx.zu (fun hc => ?_) (fun hc => ?_)
      | refine Nx.zx ?_ | fail
    exact Nx.again (i + 1) him (by omega) ⟨rfl, rfl, rfl, rfl, rfl, trivial⟩ (by rw [← hsk]; (exact Ent.auto))
  have hzi : z = s.T i e := by rw [hz]; unfold T2; rw [if_neg hir, if_neg (by omega)]
  by_cases hz0 : z = 0
  · have hsk := T2_skip s.T (N := q.N) (r := r) (e := e) (i := i) (.inr (by rw [← hzi]; exact hz0))
    have hn0 : z.num = 0 := by rw [hz0]; rfl
    repeat' first
      | ((with_reducible refine Nx.is_wp ?_); first | refine Nx.wo ?_ | refine Nx.zp (fun hc => ?_) (fun hc => ?_))
      | (refine Nx.zo ?_; first | refine Nx.opr rfl rfl ?_ | refine Nx.indexAddr_nat (A := ta.Ar) (i := i) (sz := 1) rfl rfl rfl rfl rfl him hAr ?_ | refine Nx.load rfl rfl rfl (roi _ _) ?_ | refine Nx.indexAddr_nat (A := (ta.ra i).1) (i := e) (sz := 2) rfl rfl rfl rfl rfl heN hri ?_ | refine Nx.loads rfl rfl rfl rfl (hze _ _ 0 rfl) rfl ?_ | refine Nx.so ?_ | refine Nx.sb (fun bx => ?_) | refine Nx.sa (fun A2 c2 => ?_))
      | refine Nx.za ?_ | refine Nx.zr (fun hc => ?_) (fun hc => ?_)
      | refine Nx.zq ?_ | refine Nx.zu (fun hc => ?_) (fun hc => ?_)
      | refine Nx.zx ?_ | fail
    exact Nx.again (i + 1) him (by omega) ⟨rfl, rfl, rfl, rfl, rfl, trivial⟩ (by rw [← hsk]; (exact Ent.auto))
  have hn0 : z.num ≠ 0 := rat_ne hz0
  have hRBz : RB z := by rw [hzi]; exact hD.rb him (by omega)
  have hI64 : I64 (-z.num) := (rat_i64 (RB_neg hRBz)).1
  repeat' first
    | ((with_reducible refine Nx.is_wp ?_); first | refine Nx.wo ?_ | refine Nx.zp (fun hc => ?_) (fun hc => ?_))
    | (refine Nx.zo ?_; first | refine Nx.opr rfl rfl ?_ | refine Nx.indexAddr_nat (A := ta.Ar) (i := i) (sz := 1) rfl rfl rfl rfl rfl him hAr ?_ | refine Nx.load rfl rfl rfl (roi _ _) ?_ | refine Nx.indexAddr_nat (A := (ta.ra i).1) (i := e) (sz := 2) rfl rfl rfl rfl rfl heN hri ?_ | refine Nx.loads rfl rfl rfl rfl (hze _ _ 0 rfl) rfl ?_ | refine Nx.neg rfl hI64 rfl ?_ | refine Nx.so ?_ | refine Nx.sb (fun bx => ?_) | refine Nx.sa (fun A2 c2 => ?_))
    | refine Nx.za ?_ | refine Nx.zr (fun hc => ?_) (fun hc => ?_)
    | refine Nx.zq ?_ | refine Nx.zu (fun hc => ?_) (fun hc => ?_)
    | refine Nx.zx ?_ | fail
  revert bx; intro b9
  obtain ⟨nz, hnz⟩ : ∃ nz, nz = -z := ⟨_, rfl⟩
  refine Nx.p_loop (σ := Nat) (fun k => [(1, .int .i64 (r : Int)), (2, .int .i64 (e : Int)), (3, .pointer (some ⟨b3, 0, none⟩)), (8, .int .i64 (i : Int)), (9, .pointer (some ⟨b9, 0, none⟩)), (59, .int .i64 (q.m : Int)), (60, .int .i64 (i : Int)), (88, .int .i64 (q.N : Int)), (89, .int .i64 (k : Int))])
    (fun k => [Blk b9 24 (ratC nz), rrowsR q ta (T2 s.T q.N r e i k), Blk b3 87 (rtC q ⟨ta, Ax, cx⟩), rightR q ⟨ta, Ax, cx⟩ (T2 s.T q.N r e i 0), basisR q ta s.B, F]) (fun k => k ≤ q.N) (fun k => q.N - k) 0 rfl (Nat.zero_le _) ⟨rfl, rfl, rfl, rfl, rfl, rfl, rfl, rfl, rfl, trivial⟩ (by rw [hnz, ← neg_num]; (exact Ent.auto)) ?_
  intro k hk
  have hk : k ≤ q.N := hk
  have hRnz : RB nz := by rw [hnz]; exact RB_neg hRBz
  obtain ⟨qk, hqk⟩ : ∃ qk, qk = s.T r k / s.T r e := ⟨_, rfl⟩
  obtain ⟨xk, hxk⟩ : ∃ xk, xk = s.T i k := ⟨_, rfl⟩
  obtain ⟨pr, hpr⟩ : ∃ pr, pr = nz * qk := ⟨_, rfl⟩
  obtain ⟨nk, hnk⟩ : ∃ nk, nk = xk + pr := ⟨_, rfl⟩
  have hnk2 : nk = s.T i k - s.T i e * (s.T r k / s.T r e) := by rw [hnk, hpr, hnz, hxk, hqk, hzi, Rat.neg_mul, ← Rat.sub_eq_add_neg]
  have hRq : RB qk := by rw [hqk]; exact hD.rbq hr hr hk heN hne
  have hRp : RB pr := by rw [hpr, hnz, Rat.neg_mul, hzi, hqk]; exact RB_neg (hD.rbt him hr hk heN hne)
  have hRn : RB nk := by
    have : nk = (Bl.piv s r e).T i k := by rw [Bl.piv_T, if_neg hir, hnk2]
    rw [this]; exact hD'.rb him hk
  have hM1 := rmul_spec nz qk hRnz hRq (by rw [← hpr]; exact hRp) I
  rw [← hpr] at hM1
  have hM2 := radd_spec xk pr (by rw [hxk]; exact hD.rb him hk) hRp (by rw [← hnk]; exact hRn) I
  rw [← hnk] at hM2
  by_cases hkN : k < q.N
  case neg =>
    obtain rfl : k = q.N := by omega
    rw [r2_end]
    have hb1 : ∀ (W : World) (R : List Res) (j : Nat), nthL R j = some (rightR q ⟨ta, Ax, cx⟩ (T2 s.T q.N r e i 0)) → Rds W I R ((ad Ax).add (r * 2)) (ratC qk) := fun W R j hj => by
      have := right_rds (W := W) (I := I) (ra := ⟨ta, Ax, cx⟩) j hj hr
      rwa [show T2 s.T q.N r e i 0 r q.N = qk by rw [hqk]; unfold T2; rw [if_pos rfl, if_pos (by omega)]] at this
    have hb2 : ∀ (W : World) (R : List Res) (j : Nat), nthL R j = some (rightR q ⟨ta, Ax, cx⟩ (T2 s.T q.N r e i 0)) → Rds W I R ((ad Ax).add (i * 2)) (ratC xk) := fun W R j hj => by
      have := right_rds (W := W) (I := I) (ra := ⟨ta, Ax, cx⟩) j hj him
      rwa [show T2 s.T q.N r e i 0 i q.N = xk by rw [hxk]; unfold T2; rw [if_neg hir, if_neg (by omega)]] at this
    have hup := r2_right (q := q) (ra := ⟨ta, Ax, cx⟩) (T := s.T) (e := e) hir
    rw [← hnk2] at hup
    clear hqk hxk hpr hnk hRq hRp hRn hze hz hnk2
    repeat' first
      | ((with_reducible refine Nx.is_wp ?_); first | refine Nx.wo ?_ | refine Nx.p_drawF (id := 5) rfl [0, 1, 2, 3, 4, 5, 6, 7, 8, 9, 10, 11, 12, 13, 14, 15, 16] [15] [17] _ rfl rfl (by kernel_rfl) (by kernel_rfl) rfl PanicOk.auto (Ent.refl _) ?_ | refine Nx.p_drawF (id := 7) rfl [0, 1, 2, 3, 4, 5, 6, 7, 8, 9, 10] [9] [11] _ rfl rfl (by kernel_rfl) (by kernel_rfl) rfl PanicOk.auto (Ent.refl _) ?_ | refine Nx.p_drawF (id := 17) rfl [0, 1, 2, 3, 4, 5, 6, 7, 8, 9, 10, 11, 12, 13, 14, 15, 16, 17, 18, 19, 20, 21, 22, 23, 24, 25] [23, 24] [26] _ rfl rfl (by kernel_rfl) (by kernel_rfl) rfl PanicOk.auto (Ent.refl _) ?_ | refine Nx.p_drawF (id := 19) rfl [0, 1, 2, 3, 4, 5, 6, 7, 8, 9, 10, 11, 12, 13, 14, 15, 16] [14, 15] [17] _ rfl rfl (by kernel_rfl) (by kernel_rfl) rfl PanicOk.auto (Ent.refl _) ?_ | refine Nx.zp (fun hc => ?_) (fun hc => ?_))
      | (refine Nx.zo ?_; first | refine Nx.opr rfl rfl ?_ | refine Nx.callv rfl rfl rfl (by kernel_rfl) rfl hM1 ?_ | refine Nx.callv rfl rfl rfl (by kernel_rfl) rfl hM2 ?_ | refine Nx.indexAddr_nat (A := Ax) (i := i) (sz := 2) rfl rfl rfl rfl rfl him hAx ?_ | refine Nx.store_right (ra := ⟨ta, Ax, cx⟩) 3 rfl rfl rfl rfl him ?_ | refine Nx.so ?_ | refine Nx.sb (fun bx => ?_) | refine Nx.sa (fun A2 c2 => ?_))
      | refine Nx.za ?_ | refine Nx.zr (fun hc => ?_) (fun hc => ?_)
      | ((with_reducible refine Nx.is_mix ?_); first | refine Nx.m_quiet rfl rfl rfl rfl rfl (by first | exact QRun.opr rfl | exact QRun.idx (A := Ax) (i := r) (sz := 2) rfl rfl rfl rfl hr hAx | exact QRun.idx (A := Ax) (i := i) (sz := 2) rfl rfl rfl rfl him hAx | exact QRun.loads rfl rfl rfl (hb1 _ _ 3 rfl) rfl | exact QRun.loads rfl rfl rfl (hb2 _ _ 3 rfl) rfl | exact QRun.loads rfl rfl rfl (Rds.cut 0 2 rfl rfl) rfl) ?_ | refine Nx.m_quiet_do rfl rfl rfl rfl rfl rfl rfl (by first | exact QRun.opr rfl | exact QRun.idx (A := Ax) (i := r) (sz := 2) rfl rfl rfl rfl hr hAx | exact QRun.idx (A := Ax) (i := i) (sz := 2) rfl rfl rfl rfl him hAx | exact QRun.loads rfl rfl rfl (hb1 _ _ 3 rfl) rfl | exact QRun.loads rfl rfl rfl (hb2 _ _ 3 rfl) rfl | exact QRun.loads rfl rfl rfl (Rds.cut 0 2 rfl rfl) rfl) ?_ | refine Nx.m ?_ | refine Nx.zm ?_ | refine Nx.zt (fun hc => ?_) (fun hc => ?_))
      | refine Nx.zx ?_ | fail
    exact Nx.again (i + 1) him (by omega) ⟨rfl, rfl, rfl, rfl, rfl, trivial⟩ (by rw [← hup]; (exact Ent.auto))
  have hqe : ∀ (W : World) (R : List Res) (j : Nat), nthL R j = some (rrowsR q ta (T2 s.T q.N r e i k)) → Rds W I R ((ad (ta.ra r).1).add (k * 2)) (ratC qk) := fun W R j hj => by
    have := rnum_rds (W := W) (I := I) j hj hr hkN
    rwa [show T2 s.T q.N r e i k r k = qk by rw [hqk]; unfold T2; rw [if_pos rfl, if_pos (by omega)]] at this
  have hxe : ∀ (W : World) (R : List Res) (j : Nat), nthL R j = some (rrowsR q ta (T2 s.T q.N r e i k)) → Rds W I R ((ad (ta.ra i).1).add (k * 2)) (ratC xk) := fun W R j hj => by
    have := rnum_rds (W := W) (I := I) j hj him hkN
    rwa [show T2 s.T q.N r e i k i k = xk by rw [hxk]; unfold T2; rw [if_neg hir, if_neg (by omega)]] at this
  have hup := T2_succ s.T (N := q.N) (r := r) (e := e) (i := i) (k := k) hir (by omega)
  rw [← hnk2] at hup
  clear hqk hxk hpr hnk hRq hRp hRn hze hz hnk2
  repeat' first
    | ((with_reducible refine Nx.is_wp ?_); first | refine Nx.wo ?_ | refine Nx.p_drawF (id := 5) rfl [0, 1, 2, 3, 4, 5, 6, 7, 8, 9, 10, 11, 12, 13, 14, 15, 16] [15] [17] _ rfl rfl (by kernel_rfl) (by kernel_rfl) rfl PanicOk.auto (Ent.refl _) ?_ | refine Nx.p_drawF (id := 7) rfl [0, 1, 2, 3, 4, 5, 6, 7, 8, 9, 10] [9] [11] _ rfl rfl (by kernel_rfl) (by kernel_rfl) rfl PanicOk.auto (Ent.refl _) ?_ | refine Nx.p_drawF (id := 17) rfl [0, 1, 2, 3, 4, 5, 6, 7, 8, 9, 10, 11, 12, 13, 14, 15, 16, 17, 18, 19, 20, 21, 22, 23, 24, 25] [23, 24] [26] _ rfl rfl (by kernel_rfl) (by kernel_rfl) rfl PanicOk.auto (Ent.refl _) ?_ | refine Nx.p_drawF (id := 19) rfl [0, 1, 2, 3, 4, 5, 6, 7, 8, 9, 10, 11, 12, 13, 14, 15, 16] [14, 15] [17] _ rfl rfl (by kernel_rfl) (by kernel_rfl) rfl PanicOk.auto (Ent.refl _) ?_ | refine Nx.zp (fun hc => ?_) (fun hc => ?_))
    | (refine Nx.zo ?_; first | refine Nx.opr rfl rfl ?_ | refine Nx.callv rfl rfl rfl (by kernel_rfl) rfl hM1 ?_ | refine Nx.callv rfl rfl rfl (by kernel_rfl) rfl hM2 ?_ | refine Nx.indexAddr_nat (A := (ta.ra i).1) (i := k) (sz := 2) rfl rfl rfl rfl rfl hkN hri ?_ | refine Nx.rstore_num 1 rfl rfl rfl rfl him hkN ?_ | refine Nx.so ?_ | refine Nx.sb (fun bx => ?_) | refine Nx.sa (fun A2 c2 => ?_))
    | refine Nx.za ?_ | refine Nx.zr (fun hc => ?_) (fun hc => ?_)
    | ((with_reducible refine Nx.is_mix ?_); first | refine Nx.m_quiet rfl rfl rfl rfl rfl (by first | exact QRun.opr rfl | exact QRun.idx (A := ta.Ar) (i := r) (sz := 1) rfl rfl rfl rfl hr hAr | exact QRun.load rfl rfl (ro1 _ _) | exact QRun.idx (A := ta.Ar) (i := i) (sz := 1) rfl rfl rfl rfl him hAr | exact QRun.load rfl rfl (roi _ _) | exact QRun.idx (A := (ta.ra i).1) (i := k) (sz := 2) rfl rfl rfl rfl hkN hri | exact QRun.idx (A := (ta.ra r).1) (i := k) (sz := 2) rfl rfl rfl rfl hkN hrr | exact QRun.loads rfl rfl rfl (hqe _ _ 1 rfl) rfl | exact QRun.loads rfl rfl rfl (hxe _ _ 1 rfl) rfl | exact QRun.loads rfl rfl rfl (Rds.cut 0 2 rfl rfl) rfl) ?_ | refine Nx.m_quiet_do rfl rfl rfl rfl rfl rfl rfl (by first | exact QRun.opr rfl | exact QRun.idx (A := ta.Ar) (i := r) (sz := 1) rfl rfl rfl rfl hr hAr | exact QRun.load rfl rfl (ro1 _ _) | exact QRun.idx (A := ta.Ar) (i := i) (sz := 1) rfl rfl rfl rfl him hAr | exact QRun.load rfl rfl (roi _ _) | exact QRun.idx (A := (ta.ra i).1) (i := k) (sz := 2) rfl rfl rfl rfl hkN hri | exact QRun.idx (A := (ta.ra r).1) (i := k) (sz := 2) rfl rfl rfl rfl hkN hrr | exact QRun.loads rfl rfl rfl (hqe _ _ 1 rfl) rfl | exact QRun.loads rfl rfl rfl (hxe _ _ 1 rfl) rfl | exact QRun.loads rfl rfl rfl (Rds.cut 0 2 rfl rfl) rfl) ?_ | refine Nx.m ?_ | refine Nx.zm ?_ | refine Nx.zt (fun hc => ?_) (fun hc => ?_))
    | refine Nx.zx ?_ | fail
  exact Nx.again (k + 1) hkN (by omega) ⟨rfl, rfl, rfl, rfl, rfl, rfl, rfl, rfl, rfl, trivial⟩ (by rw [← hup]; (exact Ent.auto))
end Go.Proofs.YtpcnapidlhpbkaaGreatDoor
namespace Go.Proofs.YtpcnapidlhpbkaaGreatDoor
open Go.Eng
attribute [local irreducible] opK wpList Code.wp Exit.then Exit.inBlock fnPost bodyPost Nx Calls Oper.wp Rd Rds Wr Ent Stars Blk Again Vec FnSpec wpMix QRun Stop Upto wpAt
theorem num_ps {z : Rat} : 0 < z.num ↔ 0 < z := by
  rw [Rat.lt_iff]
  show 0 < z.num ↔ 0 * (z.den : Int) < z.num * ((1 : Nat) : Int)
  omega
theorem num_np {z : Rat} : z.num ≤ 0 ↔ z ≤ 0 := by
  rw [← Rat.not_lt, ← num_ps]
  omega
theorem gn_succ' (c : Nat → Int) (s : Bl.Tab) (col j : Nat) : gn c s col (j + 1) = gn c s col j + -(Bl.cst c (s.B j) * s.T j col) := by rw [gn_succ, Rat.sub_eq_add_neg]
set_option maxRecDepth 10000 in
theorem greatest15 (w : World) (Q : Exit → Act → World → Prop) (hQ : PanicOk Q) (F : Res) (q : Bl.Eqs) (hq : q.Small) (ta : TA) (Ax : Option Addr) (cx : Nat) (s : Bl.Tab) (hs : Bl.Inv q s) (e : Nat) (he : e < q.cnt) (v1 v2 : Value) (b3 : Nat) (I : PH)
    (ho : SliceOf (fun i : Nat => Value.slice (ta.ra i).1 q.N (ta.ra i).2) I ta.Ar ta.cr (List.range q.m)) (hra : ∀ i, i < q.m → (ta.ra i).1.isSome = true) (hAx : 0 < q.m → Ax.isSome = true) (hAb : 0 < q.m → ta.Ab.isSome = true)
    (hst : ∀ r, Bl.Lea q.m q.N s e r → Bl.Inv q (Bl.piv s r e))
    (h1 : (∀ i, i < q.m → s.T i e ≤ 0) → Nx ⟨Tryz.prog, 141, w⟩ [] I [Blk b3 87 (rtC q ⟨ta, Ax, cx⟩), rrowsR q ta s.T, rightR q ⟨ta, Ax, cx⟩ s.T, basisR q ta s.B, F] (Q .ret))
    (h2 : ∀ r, Bl.Lea q.m q.N s e r → Nx ⟨Tryz.prog, 141, w⟩ [(1, v1), (2, v2), (3, .pointer (some ⟨b3, 0, none⟩))] I [Blk b3 87 (rtC q ⟨ta, Ax, cx⟩), rrowsR q ta (Bl.piv s r e).T, rightR q ⟨ta, Ax, cx⟩ (Bl.piv s r e).T, basisR q ta (Bl.piv s r e).B, F] (Q .normal)) :
    Nx ⟨Tryz.prog, 141, w⟩ [(1, v1), (2, v2), (3, .pointer (some ⟨b3, 0, none⟩)), (6, .int .i64 (e : Int))] I [Blk b3 87 (rtC q ⟨ta, Ax, cx⟩), rrowsR q ta s.T, rightR q ⟨ta, Ax, cx⟩ s.T, basisR q ta s.B, F]
      (Code.wp Tryz.prog (cr (cr (cl (cl (cl (cr (bodyOf Tryz.f93))))))) Q) := by
  have hc1 := hq.cnt
  have hm10 := hq.m
  have hNb : q.N ≤ 20 := by show q.cnt + q.m ≤ 20; omega
  have heN : e < q.N := by show e < q.cnt + q.m; omega
  obtain ⟨D, hD⟩ := hs.num hq
  have ror := fun (W : World) (Q : List Res) (i : Nat) (hi : i < q.m) => (by
    have := ho.rd (W := W) (R := Q) (k := i) (by rw [List.length_range]; exact hi)
    rwa [range_getD hi] at this : Rd W I Q ((ad ta.Ar).add (i * 1)) (.slice (ta.ra i).1 q.N (ta.ra i).2))
  have hAr : 0 < q.m → ta.Ar.isSome = true := fun h => ho.isSome (by rw [List.length_range]; omega)
  repeat' first
    | ((with_reducible refine Nx.is_wp ?_); first | refine Nx.wo ?_ | refine Nx.zp (fun hc => ?_) (fun hc => ?_))
    | (refine Nx.zo ?_; first | refine Nx.opr rfl rfl ?_ | refine Nx.so ?_ | refine Nx.sb (fun bx => ?_) | refine Nx.sa (fun A2 c2 => ?_))
    | refine Nx.za ?_ | refine Nx.zr (fun hc => ?_) (fun hc => ?_)
    | refine Nx.zq ?_ | refine Nx.zu (fun hc => ?_) (fun hc => ?_)
    | refine Nx.zx ?_ | fail
  refine Nx.p_loop (σ := Nat × Option Nat) (fun z => [(1, v1), (2, v2), (3, .pointer (some ⟨b3, 0, none⟩)), (6, .int .i64 (e : Int)), (11, .int .i64 (bestV z.2)), (67, .int .i64 (q.m : Int)), (68, .int .i64 (z.1 : Int))])
    (fun _ => [Blk b3 87 (rtC q ⟨ta, Ax, cx⟩), rrowsR q ta s.T, rightR q ⟨ta, Ax, cx⟩ s.T, basisR q ta s.B, F]) (fun z => z.1 ≤ q.m ∧ Best q s e z.1 z.2) (fun z => q.m - z.1) (0, none) rfl ⟨Nat.zero_le _, fun i hi => absurd hi (Nat.not_lt_zero _)⟩ ⟨rfl, rfl, rfl, rfl, rfl, rfl, rfl, trivial⟩ (by (exact Ent.auto)) ?_
  rintro ⟨i, o⟩ ⟨hi, hob⟩
  dsimp only at hi hob ⊢
  by_cases him : i < q.m
  case neg =>
    obtain rfl : i = q.m := by omega
    cases o with
    | none =>
      have hbv : bestV none = -1 := rfl
      rw [hbv]
      repeat' first
        | ((with_reducible refine Nx.is_wp ?_); first | refine Nx.wo ?_ | refine Nx.zp (fun hc => ?_) (fun hc => ?_))
        | (refine Nx.zo ?_; first | refine Nx.opr rfl rfl ?_ | refine Nx.so ?_ | refine Nx.sb (fun bx => ?_) | refine Nx.sa (fun A2 c2 => ?_))
        | refine Nx.za ?_ | refine Nx.zr (fun hc => ?_) (fun hc => ?_)
        | refine Nx.zq ?_ | refine Nx.zu (fun hc => ?_) (fun hc => ?_)
        | refine Nx.zx ?_ | fail
      exact Nx.weak (by exact trivial) (by (exact Ent.auto)) (h1 hob)
    | some r =>
      have hbv : bestV (some r) = (r : Int) := rfl
      rw [hbv]
      have hl : Bl.Lea q.m q.N s e r := ⟨hob.1, hob.2.1, hob.2.2⟩
      have hP := rpivot_spec q hq ⟨ta, Ax, cx⟩ s hs r e hl.lt he (by have := hl.pos; grind) (hst r hl) I ho hra (hAx (by have := hl.lt; omega)) (hAb (by have := hl.lt; omega))
      repeat' first
        | ((with_reducible refine Nx.is_wp ?_); first | refine Nx.wo ?_ | refine Nx.zp (fun hc => ?_) (fun hc => ?_))
        | (refine Nx.zo ?_; first | refine Nx.opr rfl rfl ?_ | (refine Nx.call rfl rfl rfl (by kernel_rfl) rfl hP (by (exact Ent.auto)) ?_; rintro _ _ rfl) | refine Nx.so ?_ | refine Nx.sb (fun bx => ?_) | refine Nx.sa (fun A2 c2 => ?_))
        | refine Nx.za ?_ | refine Nx.zr (fun hc => ?_) (fun hc => ?_)
        | refine Nx.zq ?_ | refine Nx.zu (fun hc => ?_) (fun hc => ?_)
        | refine Nx.zx ?_ | fail
      exact Nx.weak (by exact ⟨rfl, rfl, rfl, trivial⟩) (by (exact Ent.auto)) (h2 r hl)
  have hAr' := hAr (by omega)
  have hAb' := hAb (by omega)
  have hAx' := hAx (by omega)
  have hri := hra i him
  have roi := fun (W : World) (Q : List Res) => ror W Q i him
  have hnr := fun (W : World) (R : List Res) (j : Nat) (hj : nthL R j = some (rrowsR q ta s.T)) => Rds.get (rnum_rds (W := W) (I := I) j hj him heN) 0 (u := .int .i64 (s.T i e).num) rfl
  by_cases hp : 0 < s.T i e
  case neg =>
    have hn0 : (s.T i e).num ≤ 0 := num_np.2 (Rat.not_lt.1 hp)
    have hbn := hob.skip (Rat.not_lt.1 hp)
    generalize s.T i e = tie at hnr hn0
    repeat' first
      | ((with_reducible refine Nx.is_wp ?_); first | refine Nx.wo ?_ | refine Nx.zp (fun hc => ?_) (fun hc => ?_))
      | (refine Nx.zo ?_; first | refine Nx.fieldAddr (A := (ad (ta.ra i).1).add (e * 2)) rfl rfl rfl ?_ | refine Nx.opr rfl rfl ?_ | refine Nx.indexAddr_nat (A := ta.Ar) (i := i) (sz := 1) rfl rfl rfl rfl rfl him hAr' ?_ | refine Nx.load rfl rfl rfl (roi _ _) ?_ | refine Nx.indexAddr_nat (A := (ta.ra i).1) (i := e) (sz := 2) rfl rfl rfl rfl rfl heN hri ?_ | refine Nx.load rfl rfl rfl (hnr _ _ 1 rfl) ?_ | refine Nx.so ?_ | refine Nx.sb (fun bx => ?_) | refine Nx.sa (fun A2 c2 => ?_))
      | refine Nx.za ?_ | refine Nx.zr (fun hc => ?_) (fun hc => ?_)
      | refine Nx.zq ?_ | refine Nx.zu (fun hc => ?_) (fun hc => ?_)
      | refine Nx.zx ?_ | fail
    exact Nx.again (i + 1, o) ⟨him, hbn⟩ (by dsimp only; omega) ⟨rfl, rfl, rfl, rfl, rfl, rfl, rfl, trivial⟩ (by (exact Ent.auto))
  have hn0 : ¬ (s.T i e).num ≤ 0 := fun h => absurd (num_ps.2 hp) (by omega)
  cases o with
  | none =>
    have hbv : bestV none = -1 := rfl
    rw [hbv]
    have hbn := hob.first hp
    generalize s.T i e = tie at hnr hn0
    repeat' first
      | ((with_reducible refine Nx.is_wp ?_); first | refine Nx.wo ?_ | refine Nx.zp (fun hc => ?_) (fun hc => ?_))
      | (refine Nx.zo ?_; first | refine Nx.fieldAddr (A := (ad (ta.ra i).1).add (e * 2)) rfl rfl rfl ?_ | refine Nx.opr rfl rfl ?_ | refine Nx.indexAddr_nat (A := ta.Ar) (i := i) (sz := 1) rfl rfl rfl rfl rfl him hAr' ?_ | refine Nx.load rfl rfl rfl (roi _ _) ?_ | refine Nx.indexAddr_nat (A := (ta.ra i).1) (i := e) (sz := 2) rfl rfl rfl rfl rfl heN hri ?_ | refine Nx.load rfl rfl rfl (hnr _ _ 1 rfl) ?_ | refine Nx.so ?_ | refine Nx.sb (fun bx => ?_) | refine Nx.sa (fun A2 c2 => ?_))
      | refine Nx.za ?_ | refine Nx.zr (fun hc => ?_) (fun hc => ?_)
      | refine Nx.zq ?_ | refine Nx.zu (fun hc => ?_) (fun hc => ?_)
      | refine Nx.zx ?_ | fail
    exact Nx.again (i + 1, some i) ⟨him, hbn⟩ (by dsimp only; omega) ⟨rfl, rfl, rfl, rfl, rfl, rfl, rfl, trivial⟩ (by (exact Ent.auto))
  | some r =>
    have hbv : bestV (some r) = (r : Int) := rfl
    rw [hbv]
    have hrm : r < q.m := by have := hob.1; omega
    have hrp := hob.2.1
    have hrr := hra r hrm
    have ror' := fun (W : World) (Q : List Res) => ror W Q r hrm
    have a1 := fun (W : World) (R : List Res) (j : Nat) (hj : nthL R j = some (rrowsR q ta s.T)) => rnum_rds (W := W) (I := I) j hj him heN
    have a2 := fun (W : World) (R : List Res) (j : Nat) (hj : nthL R j = some (rrowsR q ta s.T)) => rnum_rds (W := W) (I := I) j hj hrm heN
    have a3 := fun (W : World) (R : List Res) (j : Nat) (hj : nthL R j = some (rightR q ⟨ta, Ax, cx⟩ s.T)) => right_rds (W := W) (I := I) (ra := ⟨ta, Ax, cx⟩) j hj him
    have a4 := fun (W : World) (R : List Res) (j : Nat) (hj : nthL R j = some (rightR q ⟨ta, Ax, cx⟩ s.T)) => right_rds (W := W) (I := I) (ra := ⟨ta, Ax, cx⟩) j hj hrm
    have b1 := fun (W : World) (R : List Res) (j : Nat) (hj : nthL R j = some (basisR q ta s.B)) => bas_rd (W := W) (I := I) j hj him
    have b2 := fun (W : World) (R : List Res) (j : Nat) (hj : nthL R j = some (basisR q ta s.B)) => bas_rd (W := W) (I := I) j hj hrm
    have hq1 : RB (s.T i q.N / s.T i e) := hD.rbq him him (Nat.le_refl _) heN (by grind)
    have hq2 : RB (s.T r q.N / s.T r e) := hD.rbq hrm hrm (Nat.le_refl _) heN (by grind)
    have hM1 := rdiv_spec (s.T i q.N) (s.T i e) (hD.rb him (Nat.le_refl _)) (hD.rb him (Nat.le_of_lt heN)) (by grind) hq1 I
    have hM2 := rdiv_spec (s.T r q.N) (s.T r e) (hD.rb hrm (Nat.le_refl _)) (hD.rb hrm (Nat.le_of_lt heN)) (by grind) hq2 I
    obtain ⟨rq, hrq⟩ : ∃ rq, rq = s.T i q.N / s.T i e := ⟨_, rfl⟩
    obtain ⟨rr, hrr'⟩ : ∃ rr, rr = s.T r q.N / s.T r e := ⟨_, rfl⟩
    have htake : rq < rr ∨ (rq = rr ∧ s.B i < s.B r) → Best q s e (i + 1) (some i) := fun hh => hob.take hp (by rw [← hrq, ← hrr']; exact hh)
    have hstay : rr < rq ∨ (rr = rq ∧ s.B r ≤ s.B i) → Best q s e (i + 1) (some r) := fun hh => hob.keep (by rw [← hrq, ← hrr']; exact hh)
    rw [← hrq] at hM1 hq1
    rw [← hrr'] at hM2 hq2
    have hL2 := rLess_rat rq rr hq1 hq2 I
    clear hrq hrr' hob hbv
    generalize s.T i e = tie at hnr hn0 a1 hM1
    generalize s.T r e = tre at a2 hM2
    generalize s.T i q.N = tin at a3 hM1
    generalize s.T r q.N = trn at a4 hM2
    generalize s.B i = Bi at b1 htake hstay
    generalize s.B r = Br at b2 htake hstay
    repeat' first
      | ((with_reducible refine Nx.is_wp ?_); first | refine Nx.p_stopr 24 rfl ?_ | refine Nx.wo ?_ | refine Nx.p_poolF (id := 9) rfl [0, 1, 2, 3, 4, 5, 6, 7, 8, 9, 10, 11, 12, 13, 14, 15, 16] [16] [] [18] [18] [⟨17, 10, 24, _⟩] rfl rfl (by kernel_rfl) (by kernel_rfl) (by decide) (PoolFit.cons ⟨⟨_, _, _, rfl⟩, rfl, rfl⟩ PoolFit.nil) (by repeat first | exact PanicOk.fn | exact hQ | refine PanicOk.then_ ?_ | refine PanicOk.inB ?_) (Ent.refl _) ?_ | refine Nx.p_poolF (id := 23) rfl [0, 1, 2, 3, 4, 5, 6, 7, 8, 9, 10, 11, 12, 14, 15, 16, 17, 18, 19, 20, 21, 22, 23, 24, 25, 26, 13, 27] [13, 27] [] [30, 31] [30, 31] [⟨28, 13, 24, _⟩, ⟨29, 14, 24, _⟩] rfl rfl (by kernel_rfl) (by kernel_rfl) (by decide) (PoolFit.cons ⟨⟨_, _, _, rfl⟩, rfl, rfl⟩ (PoolFit.cons ⟨⟨_, _, _, rfl⟩, rfl, rfl⟩ PoolFit.nil)) (by repeat first | exact PanicOk.fn | exact hQ | refine PanicOk.then_ ?_ | refine PanicOk.inB ?_) (Ent.refl _) ?_ | refine Nx.p_drawF (id := 24) rfl [0, 1, 2, 3, 4, 5, 6, 7, 8, 9, 10, 11, 12, 13, 14, 15, 16, 17, 18, 19, 20] [2] [] _ rfl rfl (by kernel_rfl) (by kernel_rfl) rfl (by repeat first | exact PanicOk.fn | exact hQ | refine PanicOk.then_ ?_ | refine PanicOk.inB ?_) (Ent.refl _) ?_ | refine Nx.zp (fun hc => ?_) (fun hc => ?_))
      | ((first | refine Nx.at_op rfl rfl ?_ | refine Nx.m_loud rfl rfl rfl ?_ | refine Nx.at_do rfl rfl rfl rfl ?_ | refine Nx.m_loud_do rfl rfl rfl rfl rfl ?_ | refine GoodF.loud_ rfl rfl rfl rfl (fun ex X => ?_)); first | refine Nx.fieldAddr (A := (ad (ta.ra i).1).add (e * 2)) rfl rfl rfl ?_ | refine Nx.opr rfl rfl ?_ | refine Nx.indexAddr_nat (A := ta.Ar) (i := i) (sz := 1) rfl rfl rfl rfl rfl him hAr' ?_ | refine Nx.load rfl rfl rfl (roi _ _) ?_ | refine Nx.indexAddr_nat (A := (ta.ra i).1) (i := e) (sz := 2) rfl rfl rfl rfl rfl heN hri ?_ | refine Nx.load rfl rfl rfl (hnr _ _ 1 rfl) ?_ | refine Nx.callv rfl rfl rfl (by kernel_rfl) rfl hM1 ?_ | refine Nx.callv rfl rfl rfl (by kernel_rfl) rfl hM2 ?_ | refine Nx.so ?_ | refine Nx.sb (fun bx => ?_) | refine Nx.sa (fun A2 c2 => ?_))
      | refine Nx.za ?_ | refine Nx.zr (fun hc => ?_) (fun hc => ?_)
      | ((with_reducible refine Nx.is_mix ?_); first | refine Nx.m_quiet rfl rfl rfl rfl rfl (by first | exact QRun.opr rfl | exact QRun.idx (A := Ax) (i := i) (sz := 2) rfl rfl rfl rfl him hAx' | exact QRun.idx (A := Ax) (i := r) (sz := 2) rfl rfl rfl rfl hrm hAx' | exact QRun.loads rfl rfl rfl (a3 _ _ 2 rfl) rfl | exact QRun.loads rfl rfl rfl (a4 _ _ 2 rfl) rfl | exact QRun.idx (A := ta.Ar) (i := i) (sz := 1) rfl rfl rfl rfl him hAr' | exact QRun.idx (A := ta.Ar) (i := r) (sz := 1) rfl rfl rfl rfl hrm hAr' | exact QRun.load rfl rfl (roi _ _) | exact QRun.load rfl rfl (ror' _ _) | exact QRun.idx (A := (ta.ra i).1) (i := e) (sz := 2) rfl rfl rfl rfl heN hri | exact QRun.idx (A := (ta.ra r).1) (i := e) (sz := 2) rfl rfl rfl rfl heN hrr | exact QRun.loads rfl rfl rfl (a1 _ _ 1 rfl) rfl | exact QRun.loads rfl rfl rfl (a2 _ _ 1 rfl) rfl) ?_ | refine Nx.m_quiet_do rfl rfl rfl rfl rfl rfl rfl (by first | exact QRun.opr rfl | exact QRun.idx (A := Ax) (i := i) (sz := 2) rfl rfl rfl rfl him hAx' | exact QRun.idx (A := Ax) (i := r) (sz := 2) rfl rfl rfl rfl hrm hAx' | exact QRun.loads rfl rfl rfl (a3 _ _ 2 rfl) rfl | exact QRun.loads rfl rfl rfl (a4 _ _ 2 rfl) rfl | exact QRun.idx (A := ta.Ar) (i := i) (sz := 1) rfl rfl rfl rfl him hAr' | exact QRun.idx (A := ta.Ar) (i := r) (sz := 1) rfl rfl rfl rfl hrm hAr' | exact QRun.load rfl rfl (roi _ _) | exact QRun.load rfl rfl (ror' _ _) | exact QRun.idx (A := (ta.ra i).1) (i := e) (sz := 2) rfl rfl rfl rfl heN hri | exact QRun.idx (A := (ta.ra r).1) (i := e) (sz := 2) rfl rfl rfl rfl heN hrr | exact QRun.loads rfl rfl rfl (a1 _ _ 1 rfl) rfl | exact QRun.loads rfl rfl rfl (a2 _ _ 1 rfl) rfl) ?_ | refine Nx.m ?_ | refine Nx.zm ?_ | refine Nx.zt (fun hc => ?_) (fun hc => ?_))
      | ((with_reducible refine GoodF.is ?_); first | refine GoodF.quiet rfl rfl rfl rfl rfl rfl (by first | exact QRun.opr rfl | exact QRun.idx (A := Ax) (i := i) (sz := 2) rfl rfl rfl rfl him hAx' | exact QRun.idx (A := Ax) (i := r) (sz := 2) rfl rfl rfl rfl hrm hAx' | exact QRun.loads rfl rfl rfl (a3 _ _ 2 rfl) rfl | exact QRun.loads rfl rfl rfl (a4 _ _ 2 rfl) rfl | exact QRun.idx (A := ta.Ar) (i := i) (sz := 1) rfl rfl rfl rfl him hAr' | exact QRun.idx (A := ta.Ar) (i := r) (sz := 1) rfl rfl rfl rfl hrm hAr' | exact QRun.load rfl rfl (roi _ _) | exact QRun.load rfl rfl (ror' _ _) | exact QRun.idx (A := (ta.ra i).1) (i := e) (sz := 2) rfl rfl rfl rfl heN hri | exact QRun.idx (A := (ta.ra r).1) (i := e) (sz := 2) rfl rfl rfl rfl heN hrr | exact QRun.loads rfl rfl rfl (a1 _ _ 1 rfl) rfl | exact QRun.loads rfl rfl rfl (a2 _ _ 1 rfl) rfl |  exact QRun.std) ?_ | refine GoodF.done1 rfl (fun bx => ?_) | refine GoodF.done2 rfl (fun bx by_ => ?_) | refine GoodF.done3 rfl (fun bx by_ bz => ?_))
      | ((fail_if_success (with_reducible refine Nx.is_at ?_)); (fail_if_success (with_reducible refine Nx.is_wp ?_)); (fail_if_success (with_reducible refine Nx.is_mix ?_)); first | refine Nx.ex ?_ | refine Nx.pool_nextF 0 rfl (by exact Ent.auto) ?_ | refine Nx.pool_nextF 1 rfl (by exact Ent.auto) ?_ | refine Nx.pool_nextF 2 rfl (by exact Ent.auto) ?_ | refine Nx.pool_nextF 3 rfl (by exact Ent.auto) ?_)
    refine Nx.unstop ?_
    clear a1 a2 a3 a4 hM1 hM2 hnr
    have hrq : ratV rq = .agg #[.int .i64 rq.num, .int .i64 rq.den] := rfl
    by_cases hlt : rq < rr
    · rw [decide_eq_true hlt] at hL2
      have hbn := htake (.inl hlt)
      repeat' first
        | ((with_reducible refine Nx.is_wp ?_); first | refine Nx.wo ?_ | refine Nx.p_poolF (id := 9) rfl [0, 1, 2, 3, 4, 5, 6, 7, 8, 9, 10, 11, 12, 13, 14, 15, 16] [16] [] [18] [18] [⟨17, 10, 24, _⟩] rfl rfl (by kernel_rfl) (by kernel_rfl) (by decide) (PoolFit.cons ⟨⟨_, _, _, rfl⟩, rfl, rfl⟩ PoolFit.nil) (by repeat first | exact PanicOk.fn | exact hQ | refine PanicOk.then_ ?_ | refine PanicOk.inB ?_) (Ent.refl _) ?_ | refine Nx.p_poolF (id := 23) rfl [0, 1, 2, 3, 4, 5, 6, 7, 8, 9, 10, 11, 12, 14, 15, 16, 17, 18, 19, 20, 21, 22, 23, 24, 25, 26, 13, 27] [13, 27] [] [30, 31] [30, 31] [⟨28, 13, 24, _⟩, ⟨29, 14, 24, _⟩] rfl rfl (by kernel_rfl) (by kernel_rfl) (by decide) (PoolFit.cons ⟨⟨_, _, _, rfl⟩, rfl, rfl⟩ (PoolFit.cons ⟨⟨_, _, _, rfl⟩, rfl, rfl⟩ PoolFit.nil)) (by repeat first | exact PanicOk.fn | exact hQ | refine PanicOk.then_ ?_ | refine PanicOk.inB ?_) (Ent.refl _) ?_ | refine Nx.p_drawF (id := 24) rfl [0, 1, 2, 3, 4, 5, 6, 7, 8, 9, 10, 11, 12, 13, 14, 15, 16, 17, 18, 19, 20] [2] [] _ rfl rfl (by kernel_rfl) (by kernel_rfl) rfl (by repeat first | exact PanicOk.fn | exact hQ | refine PanicOk.then_ ?_ | refine PanicOk.inB ?_) (Ent.refl _) ?_ | refine Nx.zp (fun hc => ?_) (fun hc => ?_))
        | ((first | refine Nx.at_op rfl rfl ?_ | refine Nx.m_loud rfl rfl rfl ?_ | refine Nx.at_do rfl rfl rfl rfl ?_ | refine Nx.m_loud_do rfl rfl rfl rfl rfl ?_ | refine GoodF.loud_ rfl rfl rfl rfl (fun ex X => ?_)); first | refine Nx.opr rfl rfl ?_ | refine Nx.callv rfl rfl rfl (by kernel_rfl) rfl hL2 ?_ | refine Nx.so ?_ | refine Nx.sb (fun bx => ?_) | refine Nx.sa (fun A2 c2 => ?_))
        | refine Nx.za ?_ | refine Nx.zr (fun hc => ?_) (fun hc => ?_)
        | refine Nx.zq ?_ | refine Nx.zu (fun hc => ?_) (fun hc => ?_)
        | ((with_reducible refine GoodF.is ?_); first | refine GoodF.quiet rfl rfl rfl rfl rfl rfl (by first | exact QRun.opr rfl |  exact QRun.std) ?_ | refine GoodF.done1 rfl (fun bx => ?_) | refine GoodF.done2 rfl (fun bx by_ => ?_) | refine GoodF.done3 rfl (fun bx by_ bz => ?_))
        | ((fail_if_success (with_reducible refine Nx.is_at ?_)); (fail_if_success (with_reducible refine Nx.is_wp ?_)); (fail_if_success (with_reducible refine Nx.is_mix ?_)); first | refine Nx.ex ?_ | refine Nx.pool_nextF 0 rfl (by exact Ent.auto) ?_ | refine Nx.pool_nextF 1 rfl (by exact Ent.auto) ?_ | refine Nx.pool_nextF 2 rfl (by exact Ent.auto) ?_ | refine Nx.pool_nextF 3 rfl (by exact Ent.auto) ?_)
      exact Nx.again (i + 1, some i) ⟨him, hbn⟩ (by dsimp only; omega) ⟨rfl, rfl, rfl, rfl, rfl, rfl, rfl, trivial⟩ (by (exact Ent.auto))
    rw [decide_eq_false hlt] at hL2
    by_cases heq : rq = rr
    · have hE := fun {x y : Operand} (w : World) => eql_fracK (x := x) (y := y) rq.num rq.den rr.num rr.den true (decide_eq_true (rat_eq_iff.2 heq)) w
      by_cases hB : Bi < Br
      · have hbn := htake (.inr ⟨heq, hB⟩)
        repeat' first
          | ((with_reducible refine Nx.is_wp ?_); first | refine Nx.wo ?_ | refine Nx.p_poolF (id := 9) rfl [0, 1, 2, 3, 4, 5, 6, 7, 8, 9, 10, 11, 12, 13, 14, 15, 16] [16] [] [18] [18] [⟨17, 10, 24, _⟩] rfl rfl (by kernel_rfl) (by kernel_rfl) (by decide) (PoolFit.cons ⟨⟨_, _, _, rfl⟩, rfl, rfl⟩ PoolFit.nil) (by repeat first | exact PanicOk.fn | exact hQ | refine PanicOk.then_ ?_ | refine PanicOk.inB ?_) (Ent.refl _) ?_ | refine Nx.p_poolF (id := 23) rfl [0, 1, 2, 3, 4, 5, 6, 7, 8, 9, 10, 11, 12, 14, 15, 16, 17, 18, 19, 20, 21, 22, 23, 24, 25, 26, 13, 27] [13, 27] [] [30, 31] [30, 31] [⟨28, 13, 24, _⟩, ⟨29, 14, 24, _⟩] rfl rfl (by kernel_rfl) (by kernel_rfl) (by decide) (PoolFit.cons ⟨⟨_, _, _, rfl⟩, rfl, rfl⟩ (PoolFit.cons ⟨⟨_, _, _, rfl⟩, rfl, rfl⟩ PoolFit.nil)) (by repeat first | exact PanicOk.fn | exact hQ | refine PanicOk.then_ ?_ | refine PanicOk.inB ?_) (Ent.refl _) ?_ | refine Nx.p_drawF (id := 24) rfl [0, 1, 2, 3, 4, 5, 6, 7, 8, 9, 10, 11, 12, 13, 14, 15, 16, 17, 18, 19, 20] [2] [] _ rfl rfl (by kernel_rfl) (by kernel_rfl) rfl (by repeat first | exact PanicOk.fn | exact hQ | refine PanicOk.then_ ?_ | refine PanicOk.inB ?_) (Ent.refl _) ?_ | refine Nx.zp (fun hc => ?_) (fun hc => ?_))
          | ((first | refine Nx.at_op rfl rfl ?_ | refine Nx.m_loud rfl rfl rfl ?_ | refine Nx.at_do rfl rfl rfl rfl ?_ | refine Nx.m_loud_do rfl rfl rfl rfl rfl ?_ | refine GoodF.loud_ rfl rfl rfl rfl (fun ex X => ?_)); first | refine Nx.opr rfl rfl ?_ | refine Nx.callv rfl rfl rfl (by kernel_rfl) rfl hL2 ?_ | refine Nx.so ?_ | refine Nx.sb (fun bx => ?_) | refine Nx.sa (fun A2 c2 => ?_))
          | refine Nx.za ?_ | refine Nx.zr (fun hc => ?_) (fun hc => ?_)
          | ((with_reducible refine Nx.is_mix ?_); first | refine Nx.m_quiet rfl rfl rfl rfl rfl (by first | exact QRun.opr rfl | exact QRun.binr rfl rfl hE | exact QRun.idx (A := ta.Ab) (i := i) (sz := 1) rfl rfl rfl rfl him hAb' | exact QRun.idx (A := ta.Ab) (i := r) (sz := 1) rfl rfl rfl rfl hrm hAb' | exact QRun.load rfl rfl (b1 _ _ 3 rfl) | exact QRun.load rfl rfl (b2 _ _ 3 rfl) | exact QRun.load rfl rfl (b1 _ _ 5 rfl) | exact QRun.load rfl rfl (b2 _ _ 5 rfl)) ?_ | refine Nx.m_quiet_do rfl rfl rfl rfl rfl rfl rfl (by first | exact QRun.opr rfl | exact QRun.binr rfl rfl hE | exact QRun.idx (A := ta.Ab) (i := i) (sz := 1) rfl rfl rfl rfl him hAb' | exact QRun.idx (A := ta.Ab) (i := r) (sz := 1) rfl rfl rfl rfl hrm hAb' | exact QRun.load rfl rfl (b1 _ _ 3 rfl) | exact QRun.load rfl rfl (b2 _ _ 3 rfl) | exact QRun.load rfl rfl (b1 _ _ 5 rfl) | exact QRun.load rfl rfl (b2 _ _ 5 rfl)) ?_ | refine Nx.m ?_ | refine Nx.zm ?_ | refine Nx.zt (fun hc => ?_) (fun hc => ?_))
          | ((with_reducible refine GoodF.is ?_); first | refine GoodF.quiet rfl rfl rfl rfl rfl rfl (by first | exact QRun.opr rfl | exact QRun.binr rfl rfl hE | exact QRun.idx (A := ta.Ab) (i := i) (sz := 1) rfl rfl rfl rfl him hAb' | exact QRun.idx (A := ta.Ab) (i := r) (sz := 1) rfl rfl rfl rfl hrm hAb' | exact QRun.load rfl rfl (b1 _ _ 3 rfl) | exact QRun.load rfl rfl (b2 _ _ 3 rfl) | exact QRun.load rfl rfl (b1 _ _ 5 rfl) | exact QRun.load rfl rfl (b2 _ _ 5 rfl) |  exact QRun.std) ?_ | refine GoodF.done1 rfl (fun bx => ?_) | refine GoodF.done2 rfl (fun bx by_ => ?_) | refine GoodF.done3 rfl (fun bx by_ bz => ?_))
          | ((fail_if_success (with_reducible refine Nx.is_at ?_)); (fail_if_success (with_reducible refine Nx.is_wp ?_)); (fail_if_success (with_reducible refine Nx.is_mix ?_)); first | refine Nx.ex ?_ | refine Nx.pool_nextF 0 rfl (by exact Ent.auto) ?_ | refine Nx.pool_nextF 1 rfl (by exact Ent.auto) ?_ | refine Nx.pool_nextF 2 rfl (by exact Ent.auto) ?_ | refine Nx.pool_nextF 3 rfl (by exact Ent.auto) ?_)
        exact Nx.again (i + 1, some i) ⟨him, hbn⟩ (by dsimp only; omega) ⟨rfl, rfl, rfl, rfl, rfl, rfl, rfl, trivial⟩ (by (exact Ent.auto))
      · have hbn := hstay (.inr ⟨heq.symm, by omega⟩)
        repeat' first
          | ((with_reducible refine Nx.is_wp ?_); first | refine Nx.wo ?_ | refine Nx.p_poolF (id := 9) rfl [0, 1, 2, 3, 4, 5, 6, 7, 8, 9, 10, 11, 12, 13, 14, 15, 16] [16] [] [18] [18] [⟨17, 10, 24, _⟩] rfl rfl (by kernel_rfl) (by kernel_rfl) (by decide) (PoolFit.cons ⟨⟨_, _, _, rfl⟩, rfl, rfl⟩ PoolFit.nil) (by repeat first | exact PanicOk.fn | exact hQ | refine PanicOk.then_ ?_ | refine PanicOk.inB ?_) (Ent.refl _) ?_ | refine Nx.p_poolF (id := 23) rfl [0, 1, 2, 3, 4, 5, 6, 7, 8, 9, 10, 11, 12, 14, 15, 16, 17, 18, 19, 20, 21, 22, 23, 24, 25, 26, 13, 27] [13, 27] [] [30, 31] [30, 31] [⟨28, 13, 24, _⟩, ⟨29, 14, 24, _⟩] rfl rfl (by kernel_rfl) (by kernel_rfl) (by decide) (PoolFit.cons ⟨⟨_, _, _, rfl⟩, rfl, rfl⟩ (PoolFit.cons ⟨⟨_, _, _, rfl⟩, rfl, rfl⟩ PoolFit.nil)) (by repeat first | exact PanicOk.fn | exact hQ | refine PanicOk.then_ ?_ | refine PanicOk.inB ?_) (Ent.refl _) ?_ | refine Nx.p_drawF (id := 24) rfl [0, 1, 2, 3, 4, 5, 6, 7, 8, 9, 10, 11, 12, 13, 14, 15, 16, 17, 18, 19, 20] [2] [] _ rfl rfl (by kernel_rfl) (by kernel_rfl) rfl (by repeat first | exact PanicOk.fn | exact hQ | refine PanicOk.then_ ?_ | refine PanicOk.inB ?_) (Ent.refl _) ?_ | refine Nx.zp (fun hc => ?_) (fun hc => ?_))
          | ((first | refine Nx.at_op rfl rfl ?_ | refine Nx.m_loud rfl rfl rfl ?_ | refine Nx.at_do rfl rfl rfl rfl ?_ | refine Nx.m_loud_do rfl rfl rfl rfl rfl ?_ | refine GoodF.loud_ rfl rfl rfl rfl (fun ex X => ?_)); first | refine Nx.opr rfl rfl ?_ | refine Nx.callv rfl rfl rfl (by kernel_rfl) rfl hL2 ?_ | refine Nx.so ?_ | refine Nx.sb (fun bx => ?_) | refine Nx.sa (fun A2 c2 => ?_))
          | refine Nx.za ?_ | refine Nx.zr (fun hc => ?_) (fun hc => ?_)
          | ((with_reducible refine Nx.is_mix ?_); first | refine Nx.m_quiet rfl rfl rfl rfl rfl (by first | exact QRun.opr rfl | exact QRun.binr rfl rfl hE | exact QRun.idx (A := ta.Ab) (i := i) (sz := 1) rfl rfl rfl rfl him hAb' | exact QRun.idx (A := ta.Ab) (i := r) (sz := 1) rfl rfl rfl rfl hrm hAb' | exact QRun.load rfl rfl (b1 _ _ 3 rfl) | exact QRun.load rfl rfl (b2 _ _ 3 rfl) | exact QRun.load rfl rfl (b1 _ _ 5 rfl) | exact QRun.load rfl rfl (b2 _ _ 5 rfl)) ?_ | refine Nx.m_quiet_do rfl rfl rfl rfl rfl rfl rfl (by first | exact QRun.opr rfl | exact QRun.binr rfl rfl hE | exact QRun.idx (A := ta.Ab) (i := i) (sz := 1) rfl rfl rfl rfl him hAb' | exact QRun.idx (A := ta.Ab) (i := r) (sz := 1) rfl rfl rfl rfl hrm hAb' | exact QRun.load rfl rfl (b1 _ _ 3 rfl) | exact QRun.load rfl rfl (b2 _ _ 3 rfl) | exact QRun.load rfl rfl (b1 _ _ 5 rfl) | exact QRun.load rfl rfl (b2 _ _ 5 rfl)) ?_ | refine Nx.m ?_ | refine Nx.zm ?_ | refine Nx.zt (fun hc => ?_) (fun hc => ?_))
          | ((with_reducible refine GoodF.is ?_); first | refine GoodF.quiet rfl rfl rfl rfl rfl rfl (by first | exact QRun.opr rfl | exact QRun.binr rfl rfl hE | exact QRun.idx (A := ta.Ab) (i := i) (sz := 1) rfl rfl rfl rfl him hAb' | exact QRun.idx (A := ta.Ab) (i := r) (sz := 1) rfl rfl rfl rfl hrm hAb' | exact QRun.load rfl rfl (b1 _ _ 3 rfl) | exact QRun.load rfl rfl (b2 _ _ 3 rfl) | exact QRun.load rfl rfl (b1 _ _ 5 rfl) | exact QRun.load rfl rfl (b2 _ _ 5 rfl) |  exact QRun.std) ?_ | refine GoodF.done1 rfl (fun bx => ?_) | refine GoodF.done2 rfl (fun bx by_ => ?_) | refine GoodF.done3 rfl (fun bx by_ bz => ?_))
          | ((fail_if_success (with_reducible refine Nx.is_at ?_)); (fail_if_success (with_reducible refine Nx.is_wp ?_)); (fail_if_success (with_reducible refine Nx.is_mix ?_)); first | refine Nx.ex ?_ | refine Nx.pool_nextF 0 rfl (by exact Ent.auto) ?_ | refine Nx.pool_nextF 1 rfl (by exact Ent.auto) ?_ | refine Nx.pool_nextF 2 rfl (by exact Ent.auto) ?_ | refine Nx.pool_nextF 3 rfl (by exact Ent.auto) ?_)
        exact Nx.again (i + 1, some r) ⟨him, hbn⟩ (by dsimp only; omega) ⟨rfl, rfl, rfl, rfl, rfl, rfl, rfl, trivial⟩ (by (exact Ent.auto))
    · have hE := fun {x y : Operand} (w : World) => eql_fracK (x := x) (y := y) rq.num rq.den rr.num rr.den false (decide_eq_false fun hh => heq (rat_eq_iff.1 hh)) w
      have hbn := hstay (.inl (by grind))
      repeat' first
        | ((with_reducible refine Nx.is_wp ?_); first | refine Nx.wo ?_ | refine Nx.p_poolF (id := 9) rfl [0, 1, 2, 3, 4, 5, 6, 7, 8, 9, 10, 11, 12, 13, 14, 15, 16] [16] [] [18] [18] [⟨17, 10, 24, _⟩] rfl rfl (by kernel_rfl) (by kernel_rfl) (by decide) (PoolFit.cons ⟨⟨_, _, _, rfl⟩, rfl, rfl⟩ PoolFit.nil) (by repeat first | exact PanicOk.fn | exact hQ | refine PanicOk.then_ ?_ | refine PanicOk.inB ?_) (Ent.refl _) ?_ | refine Nx.p_poolF (id := 23) rfl [0, 1, 2, 3, 4, 5, 6, 7, 8, 9, 10, 11, 12, 14, 15, 16, 17, 18, 19, 20, 21, 22, 23, 24, 25, 26, 13, 27] [13, 27] [] [30, 31] [30, 31] [⟨28, 13, 24, _⟩, ⟨29, 14, 24, _⟩] rfl rfl (by kernel_rfl) (by kernel_rfl) (by decide) (PoolFit.cons ⟨⟨_, _, _, rfl⟩, rfl, rfl⟩ (PoolFit.cons ⟨⟨_, _, _, rfl⟩, rfl, rfl⟩ PoolFit.nil)) (by repeat first | exact PanicOk.fn | exact hQ | refine PanicOk.then_ ?_ | refine PanicOk.inB ?_) (Ent.refl _) ?_ | refine Nx.p_drawF (id := 24) rfl [0, 1, 2, 3, 4, 5, 6, 7, 8, 9, 10, 11, 12, 13, 14, 15, 16, 17, 18, 19, 20] [2] [] _ rfl rfl (by kernel_rfl) (by kernel_rfl) rfl (by repeat first | exact PanicOk.fn | exact hQ | refine PanicOk.then_ ?_ | refine PanicOk.inB ?_) (Ent.refl _) ?_ | refine Nx.zp (fun hc => ?_) (fun hc => ?_))
        | ((first | refine Nx.at_op rfl rfl ?_ | refine Nx.m_loud rfl rfl rfl ?_ | refine Nx.at_do rfl rfl rfl rfl ?_ | refine Nx.m_loud_do rfl rfl rfl rfl rfl ?_ | refine GoodF.loud_ rfl rfl rfl rfl (fun ex X => ?_)); first | refine Nx.opr rfl rfl ?_ | refine Nx.callv rfl rfl rfl (by kernel_rfl) rfl hL2 ?_ | refine Nx.so ?_ | refine Nx.sb (fun bx => ?_) | refine Nx.sa (fun A2 c2 => ?_))
        | refine Nx.za ?_ | refine Nx.zr (fun hc => ?_) (fun hc => ?_)
        | ((with_reducible refine Nx.is_mix ?_); first | refine Nx.m_quiet rfl rfl rfl rfl rfl (by first | exact QRun.opr rfl | exact QRun.binr rfl rfl hE) ?_ | refine Nx.m_quiet_do rfl rfl rfl rfl rfl rfl rfl (by first | exact QRun.opr rfl | exact QRun.binr rfl rfl hE) ?_ | refine Nx.m ?_ | refine Nx.zm ?_ | refine Nx.zt (fun hc => ?_) (fun hc => ?_))
        | ((with_reducible refine GoodF.is ?_); first | refine GoodF.quiet rfl rfl rfl rfl rfl rfl (by first | exact QRun.opr rfl | exact QRun.binr rfl rfl hE |  exact QRun.std) ?_ | refine GoodF.done1 rfl (fun bx => ?_) | refine GoodF.done2 rfl (fun bx by_ => ?_) | refine GoodF.done3 rfl (fun bx by_ bz => ?_))
        | ((fail_if_success (with_reducible refine Nx.is_at ?_)); (fail_if_success (with_reducible refine Nx.is_wp ?_)); (fail_if_success (with_reducible refine Nx.is_mix ?_)); first | refine Nx.ex ?_ | refine Nx.pool_nextF 0 rfl (by exact Ent.auto) ?_ | refine Nx.pool_nextF 1 rfl (by exact Ent.auto) ?_ | refine Nx.pool_nextF 2 rfl (by exact Ent.auto) ?_ | refine Nx.pool_nextF 3 rfl (by exact Ent.auto) ?_)
      exact Nx.again (i + 1, some r) ⟨him, hbn⟩ (by dsimp only; omega) ⟨rfl, rfl, rfl, rfl, rfl, rfl, rfl, trivial⟩ (by (exact Ent.auto))
set_option maxRecDepth 10000 in
theorem greatest_spec (q : Bl.Eqs) (hq : q.Small) (ra : RA) (s0 : Bl.Tab) (hs0 : Bl.Inv q s0) (c : Nat → Int) (hc : ∀ k, (c k).natAbs ≤ 1) (Ac : Option Addr) (cc : Nat) (I : PH) (hcost : Rats I Ac cc (rl q.N (Bl.cst c)))
    (ho : SliceOf (fun i : Nat => Value.slice (ra.ta.ra i).1 q.N (ra.ta.ra i).2) I ra.ta.Ar ra.ta.cr (List.range q.m)) (hra : ∀ i, i < q.m → (ra.ta.ra i).1.isSome = true) (hAx : 0 < q.m → ra.Ax.isSome = true) (hAb : 0 < q.m → ra.ta.Ab.isSome = true) :
    FnSpec Tryz.prog 93 [rtV q ra, .slice Ac q.N cc, .int .i64 (q.cnt : Int)] I [rrowsR q ra.ta s0.T, rightR q ra s0.T, basisR q ra.ta s0.B]
      (fun _ R' => ∃ (s' : Bl.Tab) (bo : Bool), Bl.Run q.m q.N q.cnt (Bl.cst c) s0 s' bo ∧ R' = [rrowsR q ra.ta s'.T, rightR q ra s'.T, basisR q ra.ta s'.B]) := by
  obtain ⟨ta, Ax, cx⟩ := ra
  dsimp only at ho hra hAx hAb ⊢
  have h1 := hq.cnt
  have h2 := hq.m
  have hNb : q.N ≤ 20 := by show q.cnt + q.m ≤ 20; omega
  have ror := fun (W : World) (Q : List Res) (i : Nat) (hi : i < q.m) => (by
    have := ho.rd (W := W) (R := Q) (k := i) (by rw [List.length_range]; exact hi)
    rwa [range_getD hi] at this : Rd W I Q ((ad ta.Ar).add (i * 1)) (.slice (ta.ra i).1 q.N (ta.ra i).2))
  have hAr : 0 < q.m → ta.Ar.isSome = true := fun h => ho.isSome (by rw [List.length_range]; omega)
  refine FnSpec.enterP Tryz.func93 rfl Tryz.ntmps93 rfl fun w F => ?_
  repeat' first
    | ((with_reducible refine Nx.is_wp ?_); first | refine Nx.wo ?_ | refine Nx.zp (fun hc => ?_) (fun hc => ?_))
    | (refine Nx.zo ?_; first | refine Nx.opr rfl rfl ?_ | refine Nx.so ?_ | refine Nx.sb (fun bx => ?_) | refine Nx.sa (fun A2 c2 => ?_))
    | refine Nx.za ?_ | refine Nx.zr (fun hc => ?_) (fun hc => ?_)
    | refine Nx.zq ?_ | refine Nx.zu (fun hc => ?_) (fun hc => ?_)
    | refine Nx.zx ?_ | fail
  revert bx; intro b3
  refine Nx.p_loop (σ := Nat × Bl.Tab) (fun _ => [(1, .slice Ac q.N cc), (2, .int .i64 (q.cnt : Int)), (3, .pointer (some ⟨b3, 0, none⟩))])
    (fun z => [Blk b3 87 (rtC q ⟨ta, Ax, cx⟩), rrowsR q ta z.2.T, rightR q ⟨ta, Ax, cx⟩ z.2.T, basisR q ta z.2.B, F]) (fun z => Bl.Gone q.m q.N q.cnt (Bl.cst c) s0 z.2 z.1 ∧ Bl.Inv q z.2) (fun z => q.N ^ q.m - z.1) (0, s0) rfl ⟨Bl.Gone.zero s0, hs0⟩ ⟨rfl, rfl, rfl, trivial⟩ (by (exact Ent.auto)) ?_
  rintro ⟨kk, s⟩ ⟨hgone, hs⟩
  dsimp only at hgone hs ⊢
  have hlt := hgone.lt (show q.cnt ≤ q.cnt + q.m by omega) hs0.ok
  obtain ⟨D, hD⟩ := hs.num hq
  repeat' first
    | ((with_reducible refine Nx.is_wp ?_); first | refine Nx.wo ?_ | refine Nx.zp (fun hc => ?_) (fun hc => ?_))
    | (refine Nx.zo ?_; first | refine Nx.opr rfl rfl ?_ | refine Nx.so ?_ | refine Nx.sb (fun bx => ?_) | refine Nx.sa (fun A2 c2 => ?_))
    | refine Nx.za ?_ | refine Nx.zr (fun hc => ?_) (fun hc => ?_)
    | refine Nx.zq ?_ | refine Nx.zu (fun hc => ?_) (fun hc => ?_)
    | refine Nx.zx ?_ | fail
  refine Nx.p_loop (σ := Nat × Option Nat) (fun z => [(1, .slice Ac q.N cc), (2, .int .i64 (q.cnt : Int)), (3, .pointer (some ⟨b3, 0, none⟩)), (6, .int .i64 (bestV z.2)), (7, .int .i64 (z.1 : Int))])
    (fun _ => [Blk b3 87 (rtC q ⟨ta, Ax, cx⟩), rrowsR q ta s.T, rightR q ⟨ta, Ax, cx⟩ s.T, basisR q ta s.B, F]) (fun z => z.1 ≤ q.cnt ∧ (z.2 = none → ∀ j, j < z.1 → Bl.gain q.m (Bl.cst c) s j ≤ 0) ∧ ∀ e, z.2 = some e → Bl.Ent q.m q.cnt (Bl.cst c) s e) (fun z => q.cnt - z.1) (0, none) rfl ⟨Nat.zero_le _, fun _ j hj => absurd hj (Nat.not_lt_zero _), fun e he => by cases he⟩ ⟨rfl, rfl, rfl, rfl, rfl, trivial⟩ (by (exact Ent.auto)) ?_
  rintro ⟨k, o⟩ ⟨hk, hno, hen⟩
  dsimp only at hk hno hen ⊢
  cases o with
  | none =>
    have hno := hno rfl
    have hbv : bestV none = -1 := rfl
    rw [hbv]
    by_cases hkc : k < q.cnt
    case neg =>
      obtain rfl : k = q.cnt := by omega
      repeat' first
        | ((with_reducible refine Nx.is_wp ?_); first | refine Nx.wo ?_ | refine Nx.zp (fun hc => ?_) (fun hc => ?_))
        | (refine Nx.zo ?_; first | refine Nx.opr rfl rfl ?_ | refine Nx.so ?_ | refine Nx.sb (fun bx => ?_) | refine Nx.sa (fun A2 c2 => ?_))
        | refine Nx.za ?_ | refine Nx.zr (fun hc => ?_) (fun hc => ?_)
        | refine Nx.zq ?_ | refine Nx.zu (fun hc => ?_) (fun hc => ?_)
        | refine Nx.zx ?_ | fail
      exact Nx.ret_fn rfl [_, _, _] ⟨s, true, hgone.run (.opt hno), rfl⟩ (by (exact Ent.auto))
    have hkN : k < q.N := by show k < q.cnt + q.m; omega
    have r1 := fun (W : World) (Q : List Res) => cost_rd (I := I) (W := W) (R := Q) hcost hkN
    have hAc := hcost.isSome (by rw [rl_len]; omega) (by omega)
    repeat' first
      | ((with_reducible refine Nx.is_wp ?_); first | refine Nx.wo ?_ | refine Nx.zp (fun hc => ?_) (fun hc => ?_))
      | (refine Nx.zo ?_; first | refine Nx.opr rfl rfl ?_ | refine Nx.indexAddr_nat (A := Ac) (i := k) (sz := 2) rfl rfl rfl rfl rfl hkN hAc ?_ | refine Nx.loads rfl rfl rfl rfl (r1 _ _) rfl ?_ | refine Nx.so ?_ | refine Nx.sb (fun bx => ?_) | refine Nx.sa (fun A2 c2 => ?_))
      | refine Nx.za ?_ | refine Nx.zr (fun hc => ?_) (fun hc => ?_)
      | refine Nx.zq ?_ | refine Nx.zu (fun hc => ?_) (fun hc => ?_)
      | refine Nx.zx ?_ | fail
    revert bx; intro b8
    refine Nx.p_loop (σ := Nat) (fun i => [(1, .slice Ac q.N cc), (2, .int .i64 (q.cnt : Int)), (3, .pointer (some ⟨b3, 0, none⟩)), (6, .int .i64 (-1)), (7, .int .i64 (k : Int)), (8, .pointer (some ⟨b8, 0, none⟩)), (30, .int .i64 (q.m : Int)), (31, .int .i64 (i : Int))])
      (fun i => [Blk b8 24 (ratC (gn c s k i)), Blk b3 87 (rtC q ⟨ta, Ax, cx⟩), rrowsR q ta s.T, rightR q ⟨ta, Ax, cx⟩ s.T, basisR q ta s.B, F]) (fun i => i ≤ q.m) (fun i => q.m - i) 0 rfl (Nat.zero_le _) ⟨rfl, rfl, rfl, rfl, rfl, rfl, rfl, rfl, trivial⟩ (by rw [show gn c s k 0 = Bl.cst c k by unfold gn; rw [Bl.sm]; grind]; (exact Ent.auto)) ?_
    intro i hi
    have hi : i ≤ q.m := hi
    have hrb : ∀ i, i ≤ q.m → RB (gn c s k i) := fun i hi => hD.rbs hq hkN (fun i => c (s.B i)) (fun i => hc _) (c k) (hc k) hi
    by_cases him : i < q.m
    case neg =>
      obtain rfl : i = q.m := by omega
      rw [gn_end]
      by_cases hpos : 0 < Bl.gain q.m (Bl.cst c) s k
      · have hn0 : 0 < (Bl.gain q.m (Bl.cst c) s k).num := num_ps.2 hpos
        have hEnt : Bl.Ent q.m q.cnt (Bl.cst c) s k := ⟨hkc, hpos, hno⟩
        generalize Bl.gain q.m (Bl.cst c) s k = gv at hn0
        repeat' first
          | ((with_reducible refine Nx.is_wp ?_); first | refine Nx.wo ?_ | refine Nx.zp (fun hc => ?_) (fun hc => ?_))
          | (refine Nx.zo ?_; first | refine Nx.opr rfl rfl ?_ | refine Nx.so ?_ | refine Nx.sb (fun bx => ?_) | refine Nx.sa (fun A2 c2 => ?_))
          | refine Nx.za ?_ | refine Nx.zr (fun hc => ?_) (fun hc => ?_)
          | refine Nx.zq ?_ | refine Nx.zu (fun hc => ?_) (fun hc => ?_)
          | refine Nx.zx ?_ | fail
        exact Nx.again (k + 1, some k) ⟨hkc, (fun h => by cases h), (fun e he => by cases he; exact hEnt)⟩ (by dsimp only; omega) ⟨rfl, rfl, rfl, rfl, rfl, trivial⟩ (by (exact Ent.auto))
      · have hn0 : (Bl.gain q.m (Bl.cst c) s k).num ≤ 0 := num_np.2 (Rat.not_lt.1 hpos)
        have hno2 : ∀ j, j < k + 1 → Bl.gain q.m (Bl.cst c) s j ≤ 0 := fun j hj => by
          by_cases hjk : j < k
          · exact hno j hjk
          · obtain rfl : j = k := by omega
            exact Rat.not_lt.1 hpos
        generalize Bl.gain q.m (Bl.cst c) s k = gv at hn0
        repeat' first
          | ((with_reducible refine Nx.is_wp ?_); first | refine Nx.wo ?_ | refine Nx.zp (fun hc => ?_) (fun hc => ?_))
          | (refine Nx.zo ?_; first | refine Nx.opr rfl rfl ?_ | refine Nx.so ?_ | refine Nx.sb (fun bx => ?_) | refine Nx.sa (fun A2 c2 => ?_))
          | refine Nx.za ?_ | refine Nx.zr (fun hc => ?_) (fun hc => ?_)
          | refine Nx.zq ?_ | refine Nx.zu (fun hc => ?_) (fun hc => ?_)
          | refine Nx.zx ?_ | fail
        exact Nx.again (k + 1, none) ⟨hkc, fun _ => hno2, (fun e he => by cases he)⟩ (by dsimp only; omega) ⟨rfl, rfl, rfl, rfl, rfl, trivial⟩ (by (exact Ent.auto))
    have hB := hs.ok.bas i him
    have hAr' := hAr (by omega)
    have hAb' := hAb (by omega)
    have hri := hra i him
    have roi := fun (W : World) (Q : List Res) => ror W Q i him
    have rb := fun (W : World) (R : List Res) (j : Nat) (hj : nthL R j = some (basisR q ta s.B)) => bas_rd (W := W) (I := I) j hj him
    have r2 := fun (W : World) (Q : List Res) => cost_rd (I := I) (W := W) (R := Q) hcost hB
    have r4 := fun (W : World) (R : List Res) (j : Nat) (hj : nthL R j = some (rrowsR q ta s.T)) => rnum_rds (W := W) (I := I) j hj him hkN
    have hgs := gn_succ' c s k i
    have hR1 : RB (Bl.cst c (s.B i) * s.T i k) := hD.rb1 him (Nat.le_of_lt hkN) _ (hc _)
    have hM1 := rmul_spec (Bl.cst c (s.B i)) (s.T i k) (RB_int (by have := hc (s.B i); omega)) (hD.rb him (Nat.le_of_lt hkN)) hR1 I
    obtain ⟨pr, hpr⟩ : ∃ pr, pr = Bl.cst c (s.B i) * s.T i k := ⟨_, rfl⟩
    rw [← hpr] at hM1 hgs hR1
    obtain ⟨np, hnp⟩ : ∃ np, np = -pr := ⟨_, rfl⟩
    rw [← hnp] at hgs
    have hRn : RB np := by rw [hnp]; exact RB_neg hR1
    have hM2 := radd_spec (gn c s k i) np (hrb i hi) hRn (by rw [← hgs]; exact hrb (i + 1) him) I
    rw [← hgs] at hM2
    have hI64 : I64 (-pr.num) := (rat_i64 (RB_neg hR1)).1
    have hgi := hrb i hi
    have hM2 : FnSpec Tryz.prog 95 [ratV (gn c s k i), .agg #[.int .i64 (-pr.num), .int .i64 pr.den]] I [] (fun v R' => v = ratV (gn c s k (i + 1)) ∧ R' = []) := by rw [hnp] at hM2; exact hM2
    obtain ⟨g1, hg1⟩ : ∃ g1, g1 = gn c s k (i + 1) := ⟨_, rfl⟩
    rw [← hg1] at hM2
    generalize gn c s k i = g0 at hM2 ⊢
    generalize Bl.cst c (s.B i) = ci at r2 hM1 hpr
    generalize s.B i = Bi at hB r2 rb
    generalize s.T i k = tik at r4 hM1 hpr
    clear hpr hgs
    repeat' first
      | ((with_reducible refine Nx.is_wp ?_); first | refine Nx.wo ?_ | refine Nx.p_poolF (id := 9) rfl [0, 1, 2, 3, 4, 5, 6, 7, 8, 9, 10, 11, 12, 13, 14, 15, 16] [16] [] [18] [18] [⟨17, 10, 24, _⟩] rfl rfl (by kernel_rfl) (by kernel_rfl) (by decide) (PoolFit.cons ⟨⟨_, _, _, rfl⟩, rfl, rfl⟩ PoolFit.nil) (by repeat first | exact PanicOk.fn | exact hQ | refine PanicOk.then_ ?_ | refine PanicOk.inB ?_) (Ent.refl _) ?_ | refine Nx.p_poolF (id := 23) rfl [0, 1, 2, 3, 4, 5, 6, 7, 8, 9, 10, 11, 12, 14, 15, 16, 17, 18, 19, 20, 21, 22, 23, 24, 25, 26, 13, 27] [13, 27] [] [30, 31] [30, 31] [⟨28, 13, 24, _⟩, ⟨29, 14, 24, _⟩] rfl rfl (by kernel_rfl) (by kernel_rfl) (by decide) (PoolFit.cons ⟨⟨_, _, _, rfl⟩, rfl, rfl⟩ (PoolFit.cons ⟨⟨_, _, _, rfl⟩, rfl, rfl⟩ PoolFit.nil)) (by repeat first | exact PanicOk.fn | exact hQ | refine PanicOk.then_ ?_ | refine PanicOk.inB ?_) (Ent.refl _) ?_ | refine Nx.p_drawF (id := 24) rfl [0, 1, 2, 3, 4, 5, 6, 7, 8, 9, 10, 11, 12, 13, 14, 15, 16, 17, 18, 19, 20] [2] [] _ rfl rfl (by kernel_rfl) (by kernel_rfl) rfl (by repeat first | exact PanicOk.fn | exact hQ | refine PanicOk.then_ ?_ | refine PanicOk.inB ?_) (Ent.refl _) ?_ | refine Nx.zp (fun hc => ?_) (fun hc => ?_))
      | ((first | refine Nx.at_op rfl rfl ?_ | refine Nx.m_loud rfl rfl rfl ?_ | refine Nx.at_do rfl rfl rfl rfl ?_ | refine Nx.m_loud_do rfl rfl rfl rfl rfl ?_ | refine GoodF.loud_ rfl rfl rfl rfl (fun ex X => ?_)); first | refine Nx.opr rfl rfl ?_ | refine Nx.callv rfl rfl rfl (by kernel_rfl) rfl hM1 ?_ | refine Nx.neg rfl hI64 rfl ?_ | refine Nx.callv rfl rfl rfl (by kernel_rfl) rfl hM2 ?_ | refine Nx.so ?_ | refine Nx.sb (fun bx => ?_) | refine Nx.sa (fun A2 c2 => ?_))
      | refine Nx.za ?_ | refine Nx.zr (fun hc => ?_) (fun hc => ?_)
      | ((with_reducible refine Nx.is_mix ?_); first | refine Nx.m_quiet rfl rfl rfl rfl rfl (by first | exact QRun.opr rfl | exact QRun.idx (A := ta.Ab) (i := i) (sz := 1) rfl rfl rfl rfl him hAb' | exact QRun.load rfl rfl (rb _ _ 4 rfl) | exact QRun.idx (A := Ac) (i := Bi) (sz := 2) rfl rfl rfl rfl hB hAc | exact QRun.loads rfl rfl rfl (r2 _ _) rfl | exact QRun.idx (A := ta.Ar) (i := i) (sz := 1) rfl rfl rfl rfl him hAr' | exact QRun.load rfl rfl (roi _ _) | exact QRun.idx (A := (ta.ra i).1) (i := k) (sz := 2) rfl rfl rfl rfl hkN hri | exact QRun.loads rfl rfl rfl (r4 _ _ 2 rfl) rfl) ?_ | refine Nx.m_quiet_do rfl rfl rfl rfl rfl rfl rfl (by first | exact QRun.opr rfl | exact QRun.idx (A := ta.Ab) (i := i) (sz := 1) rfl rfl rfl rfl him hAb' | exact QRun.load rfl rfl (rb _ _ 4 rfl) | exact QRun.idx (A := Ac) (i := Bi) (sz := 2) rfl rfl rfl rfl hB hAc | exact QRun.loads rfl rfl rfl (r2 _ _) rfl | exact QRun.idx (A := ta.Ar) (i := i) (sz := 1) rfl rfl rfl rfl him hAr' | exact QRun.load rfl rfl (roi _ _) | exact QRun.idx (A := (ta.ra i).1) (i := k) (sz := 2) rfl rfl rfl rfl hkN hri | exact QRun.loads rfl rfl rfl (r4 _ _ 2 rfl) rfl) ?_ | refine Nx.m ?_ | refine Nx.zm ?_ | refine Nx.zt (fun hc => ?_) (fun hc => ?_))
      | ((with_reducible refine GoodF.is ?_); first | refine GoodF.quiet rfl rfl rfl rfl rfl rfl (by first | exact QRun.opr rfl | exact QRun.idx (A := ta.Ab) (i := i) (sz := 1) rfl rfl rfl rfl him hAb' | exact QRun.load rfl rfl (rb _ _ 4 rfl) | exact QRun.idx (A := Ac) (i := Bi) (sz := 2) rfl rfl rfl rfl hB hAc | exact QRun.loads rfl rfl rfl (r2 _ _) rfl | exact QRun.idx (A := ta.Ar) (i := i) (sz := 1) rfl rfl rfl rfl him hAr' | exact QRun.load rfl rfl (roi _ _) | exact QRun.idx (A := (ta.ra i).1) (i := k) (sz := 2) rfl rfl rfl rfl hkN hri | exact QRun.loads rfl rfl rfl (r4 _ _ 2 rfl) rfl |  exact QRun.std) ?_ | refine GoodF.done1 rfl (fun bx => ?_) | refine GoodF.done2 rfl (fun bx by_ => ?_) | refine GoodF.done3 rfl (fun bx by_ bz => ?_))
      | ((fail_if_success (with_reducible refine Nx.is_at ?_)); (fail_if_success (with_reducible refine Nx.is_wp ?_)); (fail_if_success (with_reducible refine Nx.is_mix ?_)); first | refine Nx.ex ?_ | refine Nx.pool_nextF 0 rfl (by exact Ent.auto) ?_ | refine Nx.pool_nextF 1 rfl (by exact Ent.auto) ?_ | refine Nx.pool_nextF 2 rfl (by exact Ent.auto) ?_ | refine Nx.pool_nextF 3 rfl (by exact Ent.auto) ?_)
    exact Nx.again (i + 1) him (by omega) ⟨rfl, rfl, rfl, rfl, rfl, rfl, rfl, rfl, trivial⟩ (by rw [← hg1]; (exact Ent.auto))
  | some e =>
    have he := hen e rfl
    have hbv : bestV (some e) = (e : Int) := rfl
    rw [hbv]
    have hec := he.lt
    have h15 := fun (Q : Exit → Act → World → Prop) (hQ : PanicOk Q) => greatest15 w Q hQ F q hq ta Ax cx s hs e hec (.slice Ac q.N cc) (.int .i64 (q.cnt : Int)) b3 I ho hra hAx hAb (fun r hl => hs.step he hl)
    by_cases hkc : k < q.cnt
    all_goals
      repeat' first
        | ((with_reducible refine Nx.is_wp ?_); first | refine Nx.p_stop 15 rfl ?_ | refine Nx.wo ?_ | refine Nx.zp (fun hc => ?_) (fun hc => ?_))
        | (refine Nx.zo ?_; first | refine Nx.opr rfl rfl ?_ | refine Nx.so ?_ | refine Nx.sb (fun bx => ?_) | refine Nx.sa (fun A2 c2 => ?_))
        | refine Nx.za ?_ | refine Nx.zr (fun hc => ?_) (fun hc => ?_)
        | refine Nx.zq ?_ | refine Nx.zu (fun hc => ?_) (fun hc => ?_)
        | refine Nx.zx ?_ | fail
      refine Nx.unstop ?_
      refine Nx.weak (by exact ⟨rfl, rfl, rfl, rfl, trivial⟩) (by (exact Ent.auto)) (h15 _ PanicOk.auto (fun hno => ?_) fun r hl => ?_)
      · repeat' first
          | ((with_reducible refine Nx.is_wp ?_); first | refine Nx.wo ?_ | refine Nx.zp (fun hc => ?_) (fun hc => ?_))
          | (refine Nx.zo ?_; first | refine Nx.opr rfl rfl ?_ | refine Nx.so ?_ | refine Nx.sb (fun bx => ?_) | refine Nx.sa (fun A2 c2 => ?_))
          | refine Nx.za ?_ | refine Nx.zr (fun hc => ?_) (fun hc => ?_)
          | refine Nx.zq ?_ | refine Nx.zu (fun hc => ?_) (fun hc => ?_)
          | refine Nx.zx ?_ | fail
        exact Nx.ret_fn rfl [_, _, _] ⟨s, false, hgone.run (.unb he hno), rfl⟩ (by (exact Ent.auto))
      · repeat' first
          | ((with_reducible refine Nx.is_wp ?_); first | refine Nx.wo ?_ | refine Nx.zp (fun hc => ?_) (fun hc => ?_))
          | (refine Nx.zo ?_; first | refine Nx.opr rfl rfl ?_ | refine Nx.so ?_ | refine Nx.sb (fun bx => ?_) | refine Nx.sa (fun A2 c2 => ?_))
          | refine Nx.za ?_ | refine Nx.zr (fun hc => ?_) (fun hc => ?_)
          | refine Nx.zq ?_ | refine Nx.zu (fun hc => ?_) (fun hc => ?_)
          | refine Nx.zx ?_ | fail
        exact Nx.again (kk + 1, Bl.piv s r e) ⟨hgone.next he hl, hs.step he hl⟩ (by dsimp only; omega) ⟨rfl, rfl, rfl, trivial⟩ (by (exact Ent.auto))
end Go.Proofs.YtpcnapidlhpbkaaGreatDoor
namespace Go.Proofs.YtpcnapidlhpbkaaGreatDoor
open Go.Eng Go.Sol
attribute [local irreducible] opK wpList Code.wp Exit.then Exit.inBlock fnPost bodyPost Nx Calls Oper.wp Rd Rds Wr Ent Stars Blk Again Vec FnSpec wpMix QRun Stop Upto wpAt
attribute [local irreducible] wpFork
def zrow (N k : Nat) : List (Int × Int) := (List.range N).map fun j => if j < k then (0, 1) else (0, 0)
theorem zrow_len (N k : Nat) : (zrow N k).length = N := by unfold zrow; rw [List.length_map, List.length_range]
theorem zrow_set {N k : Nat} (hk : k < N) : (zrow N k).set k (0, 1) = zrow N (k + 1) := by
  refine List.ext_getElem? fun j => ?_
  unfold zrow
  rw [List.getElem?_set, List.getElem?_map, List.length_map, List.length_range, List.getElem?_map]
  by_cases hj : j < N
  · rw [List.getElem?_range hj]
    by_cases h : k = j
    · subst h; rw [if_pos rfl, if_pos hk]; show some (0, 1) = some (if k < k + 1 then (0, 1) else (0, 0)); rw [if_pos (by omega)]
    · rw [if_neg h]
      show some (if j < k then ((0 : Int), (1 : Int)) else (0, 0)) = some (if j < k + 1 then (0, 1) else (0, 0))
      by_cases h2 : j < k
      · rw [if_pos h2, if_pos (by omega)]
      · rw [if_neg h2, if_neg (by omega)]
  · rw [List.getElem?_eq_none (by rw [List.length_range]; omega)]
    split
    · omega
    · rfl
theorem zrow_zero (N : Nat) : (List.replicate N ((0 : Int), (0 : Int))).flatMap frC0 = (zrow N 0).flatMap frC0 := by
  congr 1
  unfold zrow
  refine (List.eq_replicate_iff.2 ⟨by rw [List.length_map, List.length_range], fun x hx => ?_⟩).symm
  obtain ⟨j, _, rfl⟩ := List.mem_map.1 hx
  rfl
theorem zrow_end (N : Nat) : (zrow N N).flatMap frC0 = (rl N fun _ => 0).flatMap ratC := by
  have e : zrow N N = (rl N fun _ => (0 : Rat)).map fun q => (q.num, (q.den : Int)) := by
    unfold zrow rl
    rw [List.map_map]
    refine List.map_congr_left fun j hj => ?_
    rw [if_pos (List.mem_range.1 hj)]; rfl
  rw [e, List.flatMap_map]; rfl
theorem rrow_done {n : Nat} {l : List EqR} (h : BEq n l) {i : Nat} (hi : i < l.length) : rl (toQ n l).N (updF (rowP (l.getD i default).1.2.2 (l.getD i default).1.2.2.length) (n + i) 1) = rl (toQ n l).N ((toQ n l).s0.T i) := rl_congr fun k hk => by
  have := row_done h hi k (by omega)
  rw [← this]
  show _ = if k = (toQ n l).N then _ else _
  rw [if_neg (by omega)]
theorem rrowsN_all (q : Bl.Eqs) (ta : TA) (T : Nat → Nat → Rat) : rowsN q.m q.N ta.ra T = rrowsR q ta T := by
  unfold rowsN rrowsR rowsL
  rw [List.map_map]
  rfl
set_option maxRecDepth 10000 in
theorem begin17 (w : World) (Q : Exit → Act → World → Prop) (hQ : PanicOk Q) (RR : List Res) (b5 b7 i : Nat) (n val : Int) (v1 v4 v12 v13 vc vrow : Value) (Ar Ax Ab : Option Addr) (car cax cab : Nat) (os : List Value) (xs : List Value) (bs : List Int) (I : PH) (hi9 : i ≤ 1000) (hn9 : 0 ≤ n ∧ n ≤ 1000) (h1r : ∃ A n c, vrow = .slice A n c)
    (h : ∀ A1 c1 A2 c2 A3 c3, Nx ⟨Tryz.prog, 76, w⟩ [(0, .int .i64 n), (1, v1), (4, v4), (5, .pointer (some ⟨b5, 0, none⟩)), (12, v12), (13, v13), (14, .int .i64 (i : Int))] I
      (Blk b5 87 [.slice A1 (i + 1) c1, .slice A2 (i + 1) c2, .slice A3 (i + 1) c3] :: Vec 25 1 A1 (i + 1) c1 (os ++ [vrow]) :: Vec 24 2 A2 (i + 1) c2 (xs ++ [.int .i64 val, .int .i64 1]) :: Vec 3 1 A3 (i + 1) c3 ((bs ++ [n + (i : Int)]).map (Value.int .i64)) :: Blk b7 46 [vc, .int .i64 val] :: RR) (Q .normal)) :
    Nx ⟨Tryz.prog, 76, w⟩ [(0, .int .i64 n), (1, v1), (4, v4), (5, .pointer (some ⟨b5, 0, none⟩)), (6, .int .i64 (i : Int)), (7, .pointer (some ⟨b7, 0, none⟩)), (8, vrow), (12, v12), (13, v13), (14, .int .i64 (i : Int))] I
      (Blk b5 87 [.slice Ar i car, .slice Ax i cax, .slice Ab i cab] :: Blk b7 46 [vc, .int .i64 val] :: Vec 25 1 Ar i car os :: Vec 24 2 Ax i cax xs :: Vec 3 1 Ab i cab (bs.map (Value.int .i64)) :: RR)
      (Code.wp Tryz.prog (cr (cr (cr (cr (cr (cl (cl (cr (cr (cl (cl (cr (cl (cr (cr (bodyOf Tryz.f92)))))))))))))))) Q) := by
  obtain ⟨Aw, nw, cw, rfl⟩ := h1r
  have hW : FnSpec Tryz.prog 52 [.int .i64 val] I [] (fun v R' => v = .agg #[.int .i64 val, .int .i64 1] ∧ R' = []) := rwhole_spec val I
  refine Nx.p_forkF (id := 17) rfl [20, 21, 22, 23, 24] [20, 21, 22, 23, 24] [20, 22, 24] [Blk b5 87 [.slice Ar i car, .slice Ax i cax, .slice Ab i cab], Blk b7 46 [vc, .int .i64 val]] rfl rfl (by kernel_rfl) (by kernel_rfl) hQ (by (exact Ent.auto)) ?_
  refine Nx.forkF_qs [0, 1, 2, 5, 6, 7, 8, 12, 13, 14, 15, 16] 13 rfl (by kernel_rfl) ?_
  repeat' first
    | ((with_reducible refine Nx.is_wp ?_); first | refine Nx.wo ?_ | refine Nx.zp (fun hc => ?_) (fun hc => ?_))
    | (refine Nx.zo ?_; first | refine Nx.opr rfl rfl ?_ | refine Nx.so ?_ | refine Nx.sb (fun bx => ?_) | refine Nx.sa (fun A2 c2 => ?_))
    | refine Nx.za ?_ | refine Nx.zr (fun hc => ?_) (fun hc => ?_)
    | refine Nx.zq ?_ | refine Nx.zu (fun hc => ?_) (fun hc => ?_)
    | refine Nx.zx ?_ | fail
  refine Nx.forkF2 (i := 3) (j := 17) (by kernel_rfl) rfl rfl rfl rfl ?_ ?_
  · refine Nx.sb (fun b3 => ?_)
    refine Nx.mix_S (by (exact Ent.auto)) ?_
    refine Nx.forkF2 (i := 4) (j := 17) (by kernel_rfl) rfl rfl rfl rfl ?_ ?_
    · refine Nx.sa (fun A1 c1 => ?_)
      refine Nx.mix_S (by (exact Ent.auto)) ?_
      refine Nx.forkF_q 19 (by kernel_rfl) ?_
      repeat' first
        | ((with_reducible refine Nx.is_wp ?_); first | refine Nx.wo ?_ | refine Nx.zp (fun hc => ?_) (fun hc => ?_))
        | (refine Nx.zo ?_; first | refine Nx.opr rfl rfl ?_ | refine Nx.so ?_ | refine Nx.sb (fun bx => ?_) | refine Nx.sa (fun A2 c2 => ?_))
        | refine Nx.za ?_ | refine Nx.zr (fun hc => ?_) (fun hc => ?_)
        | refine Nx.zq ?_ | refine Nx.zu (fun hc => ?_) (fun hc => ?_)
        | refine Nx.zx ?_ | fail
      refine Nx.forkF2 (i := 9) (j := 17) (by kernel_rfl) rfl rfl rfl rfl ?_ ?_
      · refine Nx.callv rfl rfl rfl (by kernel_rfl) rfl hW ?_
        refine Nx.mix_S (by (exact Ent.auto)) ?_
        refine Nx.forkF2 (i := 10) (j := 17) (by kernel_rfl) rfl rfl rfl rfl ?_ ?_
        · refine Nx.sb (fun b10 => ?_)
          refine Nx.mix_S (by (exact Ent.auto)) ?_
          refine Nx.forkF2 (i := 11) (j := 17) (by kernel_rfl) rfl rfl rfl rfl ?_ ?_
          · refine Nx.sa (fun A2 c2 => ?_)
            refine Nx.mix_S (by (exact Ent.auto)) ?_
            refine Nx.forkF1 (i := 17) (by kernel_rfl) rfl rfl ?_
            refine Nx.sb (fun b17 => ?_)
            refine Nx.mix_S (by (exact Ent.auto)) ?_
            refine Nx.forkF1 (i := 18) (by kernel_rfl) rfl rfl ?_
            refine Nx.sa (fun A3 c3 => ?_)
            refine Nx.mix_S (by (exact Ent.auto)) ?_
            refine Nx.forkF_fin (by kernel_rfl) (by kernel_rfl) rfl ?_
            repeat' first
              | ((with_reducible refine Nx.is_wp ?_); first | refine Nx.wo ?_ | refine Nx.zp (fun hc => ?_) (fun hc => ?_))
              | (refine Nx.zo ?_; first | refine Nx.opr rfl rfl ?_ | refine Nx.so ?_ | refine Nx.sb (fun bx => ?_) | refine Nx.sa (fun A2 c2 => ?_))
              | refine Nx.za ?_ | refine Nx.zr (fun hc => ?_) (fun hc => ?_)
              | refine Nx.zq ?_ | refine Nx.zu (fun hc => ?_) (fun hc => ?_)
              | refine Nx.zx ?_ | fail
            exact Nx.weak (by exact ⟨rfl, rfl, rfl, rfl, rfl, rfl, rfl, trivial⟩) (by rw [List.map_append]; (exact Ent.auto)) (h A1 c1 A2 c2 A3 c3)
          · refine Nx.sb (fun b17 => ?_)
            refine Nx.mix_S (by (exact Ent.auto)) ?_
            refine Nx.forkF1 (i := 11) (by kernel_rfl) rfl rfl ?_
            refine Nx.pull 1 rfl ?_
            refine Nx.sa (fun A2 c2 => ?_)
            refine Nx.mix_S (by (exact Ent.auto)) ?_
            refine Nx.forkF1 (i := 18) (by kernel_rfl) rfl rfl ?_
            refine Nx.pull 1 rfl ?_
            refine Nx.sa (fun A3 c3 => ?_)
            refine Nx.mix_S (by (exact Ent.auto)) ?_
            refine Nx.forkF_fin (by kernel_rfl) (by kernel_rfl) rfl ?_
            repeat' first
              | ((with_reducible refine Nx.is_wp ?_); first | refine Nx.wo ?_ | refine Nx.zp (fun hc => ?_) (fun hc => ?_))
              | (refine Nx.zo ?_; first | refine Nx.opr rfl rfl ?_ | refine Nx.so ?_ | refine Nx.sb (fun bx => ?_) | refine Nx.sa (fun A2 c2 => ?_))
              | refine Nx.za ?_ | refine Nx.zr (fun hc => ?_) (fun hc => ?_)
              | refine Nx.zq ?_ | refine Nx.zu (fun hc => ?_) (fun hc => ?_)
              | refine Nx.zx ?_ | fail
            exact Nx.weak (by exact ⟨rfl, rfl, rfl, rfl, rfl, rfl, rfl, trivial⟩) (by rw [List.map_append]; (exact Ent.auto)) (h A1 c1 A2 c2 A3 c3)
        · refine Nx.sb (fun b17 => ?_)
          refine Nx.mix_S (by (exact Ent.auto)) ?_
          refine Nx.forkF1 (i := 10) (by kernel_rfl) rfl rfl ?_
          refine Nx.sb (fun b10 => ?_)
          refine Nx.mix_S (by (exact Ent.auto)) ?_
          refine Nx.forkF1 (i := 11) (by kernel_rfl) rfl rfl ?_
          refine Nx.sa (fun A2 c2 => ?_)
          refine Nx.mix_S (by (exact Ent.auto)) ?_
          refine Nx.forkF1 (i := 18) (by kernel_rfl) rfl rfl ?_
          refine Nx.pull 1 rfl ?_
          refine Nx.sa (fun A3 c3 => ?_)
          refine Nx.mix_S (by (exact Ent.auto)) ?_
          refine Nx.forkF_fin (by kernel_rfl) (by kernel_rfl) rfl ?_
          repeat' first
            | ((with_reducible refine Nx.is_wp ?_); first | refine Nx.wo ?_ | refine Nx.zp (fun hc => ?_) (fun hc => ?_))
            | (refine Nx.zo ?_; first | refine Nx.opr rfl rfl ?_ | refine Nx.so ?_ | refine Nx.sb (fun bx => ?_) | refine Nx.sa (fun A2 c2 => ?_))
            | refine Nx.za ?_ | refine Nx.zr (fun hc => ?_) (fun hc => ?_)
            | refine Nx.zq ?_ | refine Nx.zu (fun hc => ?_) (fun hc => ?_)
            | refine Nx.zx ?_ | fail
          exact Nx.weak (by exact ⟨rfl, rfl, rfl, rfl, rfl, rfl, rfl, trivial⟩) (by rw [List.map_append]; (exact Ent.auto)) (h A1 c1 A2 c2 A3 c3)
      · refine Nx.sb (fun b17 => ?_)
        refine Nx.mix_S (by (exact Ent.auto)) ?_
        refine Nx.forkF1 (i := 9) (by kernel_rfl) rfl rfl ?_
        refine Nx.callv rfl rfl rfl (by kernel_rfl) rfl hW ?_
        refine Nx.mix_S (by (exact Ent.auto)) ?_
        refine Nx.forkF1 (i := 10) (by kernel_rfl) rfl rfl ?_
        refine Nx.sb (fun b10 => ?_)
        refine Nx.mix_S (by (exact Ent.auto)) ?_
        refine Nx.forkF1 (i := 11) (by kernel_rfl) rfl rfl ?_
        refine Nx.sa (fun A2 c2 => ?_)
        refine Nx.mix_S (by (exact Ent.auto)) ?_
        refine Nx.forkF1 (i := 18) (by kernel_rfl) rfl rfl ?_
        refine Nx.pull 1 rfl ?_
        refine Nx.sa (fun A3 c3 => ?_)
        refine Nx.mix_S (by (exact Ent.auto)) ?_
        refine Nx.forkF_fin (by kernel_rfl) (by kernel_rfl) rfl ?_
        repeat' first
          | ((with_reducible refine Nx.is_wp ?_); first | refine Nx.wo ?_ | refine Nx.zp (fun hc => ?_) (fun hc => ?_))
          | (refine Nx.zo ?_; first | refine Nx.opr rfl rfl ?_ | refine Nx.so ?_ | refine Nx.sb (fun bx => ?_) | refine Nx.sa (fun A2 c2 => ?_))
          | refine Nx.za ?_ | refine Nx.zr (fun hc => ?_) (fun hc => ?_)
          | refine Nx.zq ?_ | refine Nx.zu (fun hc => ?_) (fun hc => ?_)
          | refine Nx.zx ?_ | fail
        exact Nx.weak (by exact ⟨rfl, rfl, rfl, rfl, rfl, rfl, rfl, trivial⟩) (by rw [List.map_append]; (exact Ent.auto)) (h A1 c1 A2 c2 A3 c3)
    · refine Nx.sb (fun b17 => ?_)
      refine Nx.mix_S (by (exact Ent.auto)) ?_
      refine Nx.forkF1 (i := 4) (by kernel_rfl) rfl rfl ?_
      refine Nx.pull 1 rfl ?_
      refine Nx.sa (fun A1 c1 => ?_)
      refine Nx.mix_S (by (exact Ent.auto)) ?_
      refine Nx.forkF_q 19 (by kernel_rfl) ?_
      repeat' first
        | ((with_reducible refine Nx.is_wp ?_); first | refine Nx.wo ?_ | refine Nx.zp (fun hc => ?_) (fun hc => ?_))
        | (refine Nx.zo ?_; first | refine Nx.opr rfl rfl ?_ | refine Nx.so ?_ | refine Nx.sb (fun bx => ?_) | refine Nx.sa (fun A2 c2 => ?_))
        | refine Nx.za ?_ | refine Nx.zr (fun hc => ?_) (fun hc => ?_)
        | refine Nx.zq ?_ | refine Nx.zu (fun hc => ?_) (fun hc => ?_)
        | refine Nx.zx ?_ | fail
      refine Nx.forkF1 (i := 9) (by kernel_rfl) rfl rfl ?_
      refine Nx.callv rfl rfl rfl (by kernel_rfl) rfl hW ?_
      refine Nx.mix_S (by (exact Ent.auto)) ?_
      refine Nx.forkF1 (i := 10) (by kernel_rfl) rfl rfl ?_
      refine Nx.sb (fun b10 => ?_)
      refine Nx.mix_S (by (exact Ent.auto)) ?_
      refine Nx.forkF1 (i := 11) (by kernel_rfl) rfl rfl ?_
      refine Nx.sa (fun A2 c2 => ?_)
      refine Nx.mix_S (by (exact Ent.auto)) ?_
      refine Nx.forkF1 (i := 18) (by kernel_rfl) rfl rfl ?_
      refine Nx.pull 2 rfl ?_
      refine Nx.sa (fun A3 c3 => ?_)
      refine Nx.mix_S (by (exact Ent.auto)) ?_
      refine Nx.forkF_fin (by kernel_rfl) (by kernel_rfl) rfl ?_
      repeat' first
        | ((with_reducible refine Nx.is_wp ?_); first | refine Nx.wo ?_ | refine Nx.zp (fun hc => ?_) (fun hc => ?_))
        | (refine Nx.zo ?_; first | refine Nx.opr rfl rfl ?_ | refine Nx.so ?_ | refine Nx.sb (fun bx => ?_) | refine Nx.sa (fun A2 c2 => ?_))
        | refine Nx.za ?_ | refine Nx.zr (fun hc => ?_) (fun hc => ?_)
        | refine Nx.zq ?_ | refine Nx.zu (fun hc => ?_) (fun hc => ?_)
        | refine Nx.zx ?_ | fail
      exact Nx.weak (by exact ⟨rfl, rfl, rfl, rfl, rfl, rfl, rfl, trivial⟩) (by rw [List.map_append]; (exact Ent.auto)) (h A1 c1 A2 c2 A3 c3)
  · refine Nx.sb (fun b17 => ?_)
    refine Nx.mix_S (by (exact Ent.auto)) ?_
    refine Nx.forkF1 (i := 3) (by kernel_rfl) rfl rfl ?_
    refine Nx.sb (fun b3 => ?_)
    refine Nx.mix_S (by (exact Ent.auto)) ?_
    refine Nx.forkF1 (i := 4) (by kernel_rfl) rfl rfl ?_
    refine Nx.sa (fun A1 c1 => ?_)
    refine Nx.mix_S (by (exact Ent.auto)) ?_
    refine Nx.forkF_q 19 (by kernel_rfl) ?_
    repeat' first
      | ((with_reducible refine Nx.is_wp ?_); first | refine Nx.wo ?_ | refine Nx.zp (fun hc => ?_) (fun hc => ?_))
      | (refine Nx.zo ?_; first | refine Nx.opr rfl rfl ?_ | refine Nx.so ?_ | refine Nx.sb (fun bx => ?_) | refine Nx.sa (fun A2 c2 => ?_))
      | refine Nx.za ?_ | refine Nx.zr (fun hc => ?_) (fun hc => ?_)
      | refine Nx.zq ?_ | refine Nx.zu (fun hc => ?_) (fun hc => ?_)
      | refine Nx.zx ?_ | fail
    refine Nx.forkF1 (i := 9) (by kernel_rfl) rfl rfl ?_
    refine Nx.callv rfl rfl rfl (by kernel_rfl) rfl hW ?_
    refine Nx.mix_S (by (exact Ent.auto)) ?_
    refine Nx.forkF1 (i := 10) (by kernel_rfl) rfl rfl ?_
    refine Nx.sb (fun b10 => ?_)
    refine Nx.mix_S (by (exact Ent.auto)) ?_
    refine Nx.forkF1 (i := 11) (by kernel_rfl) rfl rfl ?_
    refine Nx.sa (fun A2 c2 => ?_)
    refine Nx.mix_S (by (exact Ent.auto)) ?_
    refine Nx.forkF1 (i := 18) (by kernel_rfl) rfl rfl ?_
    refine Nx.pull 2 rfl ?_
    refine Nx.sa (fun A3 c3 => ?_)
    refine Nx.mix_S (by (exact Ent.auto)) ?_
    refine Nx.forkF_fin (by kernel_rfl) (by kernel_rfl) rfl ?_
    repeat' first
      | ((with_reducible refine Nx.is_wp ?_); first | refine Nx.wo ?_ | refine Nx.zp (fun hc => ?_) (fun hc => ?_))
      | (refine Nx.zo ?_; first | refine Nx.opr rfl rfl ?_ | refine Nx.so ?_ | refine Nx.sb (fun bx => ?_) | refine Nx.sa (fun A2 c2 => ?_))
      | refine Nx.za ?_ | refine Nx.zr (fun hc => ?_) (fun hc => ?_)
      | refine Nx.zq ?_ | refine Nx.zu (fun hc => ?_) (fun hc => ?_)
      | refine Nx.zx ?_ | fail
    exact Nx.weak (by exact ⟨rfl, rfl, rfl, rfl, rfl, rfl, rfl, trivial⟩) (by rw [List.map_append]; (exact Ent.auto)) (h A1 c1 A2 c2 A3 c3)
set_option maxRecDepth 10000 in
theorem begin_spec (n : Nat) (A : Option Addr) (c : Nat) (l : List EqR) (I : PH) (hl : Eqs I A c l) (hb : BEq n l) :
    FnSpec Tryz.prog 92 [.int .i64 (n : Int), .slice A l.length c] I []
      (fun v R' => ∃ (ra : RA), v = rtV (toQ n l) ra ∧ (∀ i, i < l.length → (ra.ta.ra i).1.isSome = true ∧ (ra.ta.ra i).2 = (toQ n l).N) ∧ (0 < l.length → ra.Ax.isSome = true) ∧ (0 < l.length → ra.ta.Ab.isSome = true) ∧
        R' = [rrowsR (toQ n l) ra.ta (toQ n l).s0.T, rightR (toQ n l) ra (toQ n l).s0.T, basisR (toQ n l) ra.ta (toQ n l).s0.B, outR l.length (toQ n l).N ra.ta.ra ra.ta.Ar ra.ta.cr]) := by
  have hn := hb.cnt
  have hlen := hb.len
  have hq := hb.small
  have hNN : (n : Int) + (l.length : Int) = ((toQ n l).N : Int) := by show _ = ((n + l.length : Nat) : Int); omega
  have hNb : (toQ n l).N ≤ 20 := by show n + l.length ≤ 20; omega
  have hNe : (toQ n l).N = n + l.length := rfl
  obtain ⟨N, hN⟩ : ∃ N, N = (toQ n l).N := ⟨_, rfl⟩
  refine FnSpec.enterP Tryz.func92 rfl Tryz.ntmps92 rfl fun w F => ?_
  repeat' first
    | ((with_reducible refine Nx.is_wp ?_); first | refine Nx.wo ?_ | refine Nx.zp (fun hc => ?_) (fun hc => ?_))
    | (refine Nx.zo ?_; first | refine Nx.opr rfl rfl ?_ | refine Nx.so ?_ | refine Nx.sb (fun bx => ?_) | refine Nx.sa (fun A2 c2 => ?_))
    | refine Nx.za ?_ | refine Nx.zr (fun hc => ?_) (fun hc => ?_)
    | refine Nx.zq ?_ | refine Nx.zu (fun hc => ?_) (fun hc => ?_)
    | refine Nx.zx ?_ | fail
  rename_i b4
  revert bx; intro b5
  refine Nx.p_loop (σ := Nat × (Option Addr × Nat) × (Option Addr × Nat) × (Option Addr × Nat) × (Nat → Option Addr × Nat)) (fun z => [(0, .int .i64 (n : Int)), (1, .slice A l.length c), (4, .pointer (some ⟨b4, 0, none⟩)), (5, .pointer (some ⟨b5, 0, none⟩)), (12, .slice A l.length c), (13, .int .i64 (l.length : Int)), (14, .int .i64 (z.1 : Int))])
    (fun z => [Blk b5 87 [.slice z.2.1.1 z.1 z.2.1.2, .slice z.2.2.1.1 z.1 z.2.2.1.2, .slice z.2.2.2.1.1 z.1 z.2.2.2.1.2], outR z.1 N z.2.2.2.2 z.2.1.1 z.2.1.2, Vec 24 2 z.2.2.1.1 z.1 z.2.2.1.2 ((rl z.1 fun a => (toQ n l).s0.T a (toQ n l).N).flatMap ratC), Vec 3 1 z.2.2.2.1.1 z.1 z.2.2.2.1.2 ((basN n z.1).map (Value.int .i64)), rowsN z.1 N z.2.2.2.2 (toQ n l).s0.T, Blk b4 87 [.slice none 0 0, .slice none 0 0, .slice none 0 0], F]) (fun z => z.1 ≤ l.length ∧ ∀ j, j < z.1 → (z.2.2.2.2 j).1.isSome = true ∧ (z.2.2.2.2 j).2 = (toQ n l).N) (fun z => l.length - z.1) (0, (none, 0), (none, 0), (none, 0), fun _ => (none, 0)) rfl ⟨Nat.zero_le _, fun j hj => absurd hj (Nat.not_lt_zero _)⟩ ⟨rfl, rfl, rfl, rfl, rfl, rfl, rfl, trivial⟩ ((Ent.vec_nil 25 1 _).trans (Ent.trans (Ent.pick 0 rfl (Ent.vec_nil 3 1 _)) (Ent.trans (Ent.pick 0 rfl (Ent.pick 0 rfl (Ent.vec_nil 24 2 _))) (Ent.trans (Ent.pick 0 rfl (Ent.pick 0 rfl (Ent.pick 0 rfl (Ent.stars_nil _)))) (by unfold rowsN outR outL basN rl; (exact Ent.auto)))))) ?_
  rintro ⟨i, ⟨Ar, cr'⟩, ⟨Ax, cx'⟩, ⟨Ab, cb'⟩, ra⟩ ⟨hi, hra⟩
  dsimp only at hi hra ⊢
  by_cases him : i < l.length
  case neg =>
    obtain rfl : i = l.length := by omega
    refine Nx.ent (R' := [Vec 3 1 Ab l.length cb' ((basN n l.length).map (Value.int .i64)), Vec 24 2 Ax l.length cx' ((rl l.length fun a => (toQ n l).s0.T a (toQ n l).N).flatMap ratC), Blk b5 87 [.slice Ar l.length cr', .slice Ax l.length cx', .slice Ab l.length cb'], outR l.length N ra Ar cr', rowsN l.length N ra (toQ n l).s0.T, Blk b4 87 [.slice none 0 0, .slice none 0 0, .slice none 0 0], F]) (by (exact Ent.auto)) ?_
    refine Nx.vec_fact fun _ _ _ hAb => ?_
    refine Nx.ent (Ent.swap _ _ _) ?_
    refine Nx.vec_fact fun _ _ _ hAx => ?_
    repeat' first
      | ((with_reducible refine Nx.is_wp ?_); first | refine Nx.wo ?_ | refine Nx.zp (fun hc => ?_) (fun hc => ?_))
      | (refine Nx.zo ?_; first | refine Nx.opr rfl rfl ?_ | refine Nx.so ?_ | refine Nx.sb (fun bx => ?_) | refine Nx.sa (fun A2 c2 => ?_))
      | refine Nx.za ?_ | refine Nx.zr (fun hc => ?_) (fun hc => ?_)
      | refine Nx.zq ?_ | refine Nx.zu (fun hc => ?_) (fun hc => ?_)
      | refine Nx.zx ?_ | fail
    refine Nx.ret_cell 0 rfl rfl rfl rfl rfl rfl [_, _, _, _] ⟨⟨⟨Ar, cr', Ab, cb', ra⟩, Ax, cx'⟩, rfl, hra, hAx, hAb, rfl⟩ ?_
    unfold basisR basL rightR
    rw [← rrowsN_all, ← hN]
    (exact Ent.auto)
  have hm := getD_memQ him
  have hgood := hb.good _ hm
  have hval := hb.val _ hm
  have hin := hl.inner _ hm
  have hrds : ∀ (W : World) (R : List Res), Rds W I R ((ad A).add (i * 2)) (eqC (l.getD i default)) := fun W R => hl.outer.rds him
  have hrow := rrow_done hb him
  have hpos := hgood.val
  have hlt := hgood.lt
  have hA := hl.outer.isSome (by omega) (by omega)
  have hsv : (toQ n l).s0.T i (toQ n l).N = ((l.getD i default).2 : Rat) := by
    show (((toQ n l).orig i ((toQ n l).cnt + (toQ n l).m) : Int) : Rat) = _
    rw [Bl.orig_val]; rfl
  generalize l.getD i default = q at hval hin hrds hrow hpos hlt hsv
  clear hgood
  obtain ⟨⟨Aq, cq, L⟩, vx⟩ := q
  dsimp only at hval hin hrow hpos hlt hsv
  have hLl := hin.len
  rw [← hN] at hrow
  rw [← hN] at hNN hNb
  repeat' first
    | ((with_reducible refine Nx.is_wp ?_); first | refine Nx.wo ?_ | refine Nx.zp (fun hc => ?_) (fun hc => ?_))
    | (refine Nx.zo ?_; first | refine Nx.opr rfl rfl ?_ | refine Nx.indexAddr_nat (A := A) (i := i) (sz := 2) rfl rfl rfl rfl rfl him hA ?_ | refine Nx.loads rfl rfl rfl rfl (hrds _ _) rfl ?_ | refine Nx.bin rfl rfl (run_addK (by unfold I64; omega) hNN) rfl ?_ | refine Nx.makeStructs (sz := 2) (by_ := 16) (m := N) frC0 (0, 0) rfl rfl rfl rfl rfl rfl rfl rfl rfl rfl (by omega) (by unfold maxLen; omega) (fun bx => ?_) | refine Nx.so ?_ | refine Nx.sb (fun bx => ?_) | refine Nx.sa (fun A2 c2 => ?_))
    | refine Nx.za ?_ | refine Nx.zr (fun hc => ?_) (fun hc => ?_)
    | refine Nx.zq ?_ | refine Nx.zu (fun hc => ?_) (fun hc => ?_)
    | refine Nx.zx ?_ | fail
  rename_i b7
  revert bx; intro br
  clear hNb
  refine Nx.p_loop (σ := Nat) (fun k => [(0, .int .i64 (n : Int)), (1, .slice A l.length c), (4, .pointer (some ⟨b4, 0, none⟩)), (5, .pointer (some ⟨b5, 0, none⟩)), (6, .int .i64 (i : Int)), (7, .pointer (some ⟨b7, 0, none⟩)), (8, .slice (some ⟨br, 0, none⟩) N N), (12, .slice A l.length c), (13, .int .i64 (l.length : Int)), (14, .int .i64 (i : Int)), (25, .int .i64 (N : Int)), (26, .int .i64 (k : Int))])
    (fun k => [Vec 24 2 (some ⟨br, 0, none⟩) N N ((zrow N k).flatMap frC0), Blk b7 46 [.slice Aq L.length cq, .int .i64 vx], Blk b5 87 [.slice Ar i cr', .slice Ax i cx', .slice Ab i cb'], outR i N ra Ar cr', Vec 24 2 Ax i cx' ((rl i fun a => (toQ n l).s0.T a (toQ n l).N).flatMap ratC), Vec 3 1 Ab i cb' ((basN n i).map (Value.int .i64)), rowsN i N ra (toQ n l).s0.T, Blk b4 87 [.slice none 0 0, .slice none 0 0, .slice none 0 0], F]) (fun k => k ≤ N) (fun k => N - k) 0 rfl (Nat.zero_le _) ⟨rfl, rfl, rfl, rfl, rfl, rfl, rfl, rfl, rfl, rfl, rfl, rfl, trivial⟩ (by rw [← zrow_zero]; (exact Ent.auto)) ?_
  intro k hk
  have hk : k ≤ N := hk
  by_cases hkN : k < N
  · have hset := zrow_set hkN
    repeat' first
      | ((with_reducible refine Nx.is_wp ?_); first | refine Nx.wo ?_ | refine Nx.zp (fun hc => ?_) (fun hc => ?_))
      | (refine Nx.zo ?_; first | refine Nx.opr rfl rfl ?_ | refine Nx.callv rfl rfl rfl (by kernel_rfl) rfl (rwhole_spec _ _) ?_ | refine Nx.indexAddr_nat (A := some ⟨br, 0, none⟩) (i := k) (sz := 2) rfl rfl rfl rfl rfl hkN rfl ?_ | refine Nx.store_el2 (f := frC0) (a := fun q => .int .i64 q.1) (b := fun q => .int .i64 q.2) (A := some ⟨br, 0, none⟩) (l := zrow N k) (i := k) (z := ((0 : Int), (1 : Int))) 0 rfl rfl rfl (fun _ => rfl) rfl rfl rfl rfl (by rw [zrow_len]; exact hkN) hkN ?_ | refine Nx.so ?_ | refine Nx.sb (fun bx => ?_) | refine Nx.sa (fun A2 c2 => ?_))
      | refine Nx.za ?_ | refine Nx.zr (fun hc => ?_) (fun hc => ?_)
      | refine Nx.zq ?_ | refine Nx.zu (fun hc => ?_) (fun hc => ?_)
      | refine Nx.zx ?_ | fail
    exact Nx.again (k + 1) hkN (by omega) ⟨rfl, rfl, rfl, rfl, rfl, rfl, rfl, rfl, rfl, rfl, rfl, rfl, trivial⟩ (by rw [← hset]; (exact Ent.auto))
  obtain rfl : N = k := by omega
  rw [zrow_end]
  repeat' first
    | ((with_reducible refine Nx.is_wp ?_); first | refine Nx.wo ?_ | refine Nx.zp (fun hc => ?_) (fun hc => ?_))
    | (refine Nx.zo ?_; first | refine Nx.opr rfl rfl ?_ | refine Nx.so ?_ | refine Nx.sb (fun bx => ?_) | refine Nx.sa (fun A2 c2 => ?_))
    | refine Nx.za ?_ | refine Nx.zr (fun hc => ?_) (fun hc => ?_)
    | refine Nx.zq ?_ | refine Nx.zu (fun hc => ?_) (fun hc => ?_)
    | refine Nx.zx ?_ | fail
  refine Nx.p_loop (σ := Nat) (fun k => [(0, .int .i64 (n : Int)), (1, .slice A l.length c), (4, .pointer (some ⟨b4, 0, none⟩)), (5, .pointer (some ⟨b5, 0, none⟩)), (6, .int .i64 (i : Int)), (7, .pointer (some ⟨b7, 0, none⟩)), (8, .slice (some ⟨br, 0, none⟩) N N), (12, .slice A l.length c), (13, .int .i64 (l.length : Int)), (14, .int .i64 (i : Int)), (35, .slice Aq L.length cq), (36, .int .i64 (L.length : Int)), (37, .int .i64 (k : Int))])
    (fun k => [ratsR (some ⟨br, 0, none⟩) N N (rl N (rowP L k)), Blk b7 46 [.slice Aq L.length cq, .int .i64 vx], Blk b5 87 [.slice Ar i cr', .slice Ax i cx', .slice Ab i cb'], outR i N ra Ar cr', Vec 24 2 Ax i cx' ((rl i fun a => (toQ n l).s0.T a (toQ n l).N).flatMap ratC), Vec 3 1 Ab i cb' ((basN n i).map (Value.int .i64)), rowsN i N ra (toQ n l).s0.T, Blk b4 87 [.slice none 0 0, .slice none 0 0, .slice none 0 0], F]) (fun k => k ≤ L.length) (fun k => L.length - k) 0 rfl (Nat.zero_le _) ⟨rfl, rfl, rfl, rfl, rfl, rfl, rfl, rfl, rfl, rfl, rfl, rfl, rfl, trivial⟩ (by rw [rowP_zero]; (exact Ent.auto)) ?_
  intro k hk
  have hk : k ≤ L.length := hk
  by_cases hkL : k < L.length
  · have hrd : ∀ (W : World) (R : List Res), Rd W I R ((ad Aq).add (k * 1)) (.int .i64 (L.getD k default)) := fun W R => hin.rd hkL
    have hcb := hlt (L.getD k default) (by rw [List.getD_eq_getElem?_getD, List.getElem?_eq_getElem hkL]; exact List.getElem_mem _)
    obtain ⟨cN, hcN⟩ : ∃ cN : Nat, L.getD k default = (cN : Int) := ⟨(L.getD k default).toNat, by omega⟩
    have hup := rowP_succ hkL hcN
    have hset := rl_set (n := N) (k := cN) (f := rowP L k) (v := (1 : Rat))
    rw [hup] at hset
    rw [hcN] at hrd hcb
    have hcN1 : cN < N := by omega
    repeat' first
      | ((with_reducible refine Nx.is_wp ?_); first | refine Nx.wo ?_ | refine Nx.zp (fun hc => ?_) (fun hc => ?_))
      | (refine Nx.zo ?_; first | refine Nx.opr rfl rfl ?_ | refine Nx.indexAddr_nat (A := Aq) (i := k) (sz := 1) rfl rfl rfl rfl rfl hkL (hin.isSome (by omega)) ?_ | refine Nx.load rfl rfl rfl (hrd _ _) ?_ | refine Nx.callv rfl rfl rfl (by kernel_rfl) rfl (rwhole_spec _ _) ?_ | refine Nx.indexAddr_nat (A := some ⟨br, 0, none⟩) (i := cN) (sz := 2) rfl rfl rfl rfl rfl hcN1 rfl ?_ | refine Nx.store_el2 (f := ratC) (a := fun q => .int .i64 q.num) (b := fun q => .int .i64 q.den) (A := some ⟨br, 0, none⟩) (l := rl N (rowP L k)) (i := cN) (z := (1 : Rat)) 0 rfl rfl rfl (fun _ => rfl) rfl rfl rfl rfl (by rw [rl_len]; exact hcN1) hcN1 ?_ | refine Nx.so ?_ | refine Nx.sb (fun bx => ?_) | refine Nx.sa (fun A2 c2 => ?_))
      | refine Nx.za ?_ | refine Nx.zr (fun hc => ?_) (fun hc => ?_)
      | refine Nx.zq ?_ | refine Nx.zu (fun hc => ?_) (fun hc => ?_)
      | refine Nx.zx ?_ | fail
    exact Nx.again (k + 1) hkL (by omega) ⟨rfl, rfl, rfl, rfl, rfl, rfl, rfl, rfl, rfl, rfl, rfl, rfl, rfl, trivial⟩ (by rw [← hset]; (exact Ent.auto))
  obtain rfl : k = L.length := by omega
  have hni : (n : Int) + (i : Int) = ((n + i : Nat) : Int) := by omega
  have hniN : n + i < N := by omega
  have hset1 := rl_set (n := N) (k := n + i) (f := rowP L L.length) (v := (1 : Rat))
  rw [hrow] at hset1
  repeat' first
    | ((with_reducible refine Nx.is_wp ?_); first | refine Nx.wo ?_ | refine Nx.zp (fun hc => ?_) (fun hc => ?_))
    | (refine Nx.zo ?_; first | refine Nx.opr rfl rfl ?_ | refine Nx.callv rfl rfl rfl (by kernel_rfl) rfl (rwhole_spec _ _) ?_ | refine Nx.bin rfl rfl (run_addK (by unfold I64; omega) hni) rfl ?_ | refine Nx.indexAddr_nat (A := some ⟨br, 0, none⟩) (i := n + i) (sz := 2) rfl rfl rfl rfl rfl hniN rfl ?_ | refine Nx.store_el2 (f := ratC) (a := fun q => .int .i64 q.num) (b := fun q => .int .i64 q.den) (A := some ⟨br, 0, none⟩) (l := rl N (rowP L L.length)) (i := n + i) (z := (1 : Rat)) 0 rfl rfl rfl (fun _ => rfl) rfl rfl rfl rfl (by rw [rl_len]; exact hniN) hniN ?_ | refine Nx.so ?_ | refine Nx.sb (fun bx => ?_) | refine Nx.sa (fun A2 c2 => ?_))
    | refine Nx.za ?_ | refine Nx.zr (fun hc => ?_) (fun hc => ?_)
    | refine Nx.zq ?_ | refine Nx.zu (fun hc => ?_) (fun hc => ?_)
    | refine Nx.zx ?_ | fail
  refine Nx.weak (by exact ⟨rfl, rfl, rfl, rfl, rfl, rfl, rfl, rfl, rfl, rfl, trivial⟩) ?_ (begin17 w _ PanicOk.auto [ratsR (some ⟨br, 0, none⟩) N N (rl N ((toQ n l).s0.T i)), rowsN i N ra (toQ n l).s0.T, Blk b4 87 [.slice none 0 0, .slice none 0 0, .slice none 0 0], F] b5 b7 i (n : Int) vx (.slice A l.length c) (.pointer (some ⟨b4, 0, none⟩)) (.slice A l.length c) (.int .i64 l.length) (.slice Aq L.length cq) (.slice (some ⟨br, 0, none⟩) N N) Ar Ax Ab cr' cx' cb' (outL i N ra) ((rl i fun a => (toQ n l).s0.T a (toQ n l).N).flatMap ratC) (basN n i) I (by omega) (by omega) ⟨_, _, _, rfl⟩ fun A1 c1 A2 c2 A3 c3 => ?_)
  · rw [← hset1]; (exact Ent.auto)
  have hrs : (rl (i + 1) fun a => (toQ n l).s0.T a (toQ n l).N).flatMap ratC = (rl i fun a => (toQ n l).s0.T a (toQ n l).N).flatMap ratC ++ [Value.int .i64 vx, Value.int .i64 1] := by rw [rl_succ, List.flatMap_append, List.flatMap_cons, List.flatMap_nil, List.append_nil, hsv]; rfl
  rw [hni, ← basN_succ, ← outL_succ (A := some ⟨br, 0, none⟩) (c := N), ← hrs]
  repeat' first
    | ((with_reducible refine Nx.is_wp ?_); first | refine Nx.wo ?_ | refine Nx.zp (fun hc => ?_) (fun hc => ?_))
    | (refine Nx.zo ?_; first | refine Nx.opr rfl rfl ?_ | refine Nx.so ?_ | refine Nx.sb (fun bx => ?_) | refine Nx.sa (fun A2 c2 => ?_))
    | refine Nx.za ?_ | refine Nx.zr (fun hc => ?_) (fun hc => ?_)
    | refine Nx.zq ?_ | refine Nx.zu (fun hc => ?_) (fun hc => ?_)
    | refine Nx.zx ?_ | fail
  refine Nx.again (i + 1, (A1, c1), (A2, c2), (A3, c3), fun a => if a = i then (some ⟨br, 0, none⟩, N) else ra a) ⟨him, fun j hj => ?_⟩ (by dsimp only; omega) ⟨rfl, rfl, rfl, rfl, rfl, rfl, rfl, trivial⟩ ?_
  · dsimp only
    by_cases hji : j = i
    · rw [if_pos hji]; exact ⟨rfl, hN⟩
    · rw [if_neg hji]; exact hra j (by dsimp only at hj; omega)
  · dsimp only
    refine Ent.trans (R' := [ratsR (some ⟨br, 0, none⟩) N N (rl N ((toQ n l).s0.T i)), rowsN i N ra (toQ n l).s0.T, Blk b5 87 [.slice A1 (i + 1) c1, .slice A2 (i + 1) c2, .slice A3 (i + 1) c3], outR (i + 1) N (fun a => if a = i then (some ⟨br, 0, none⟩, N) else ra a) A1 c1, Vec 24 2 A2 (i + 1) c2 ((rl (i + 1) fun a => (toQ n l).s0.T a (toQ n l).N).flatMap ratC), Vec 3 1 A3 (i + 1) c3 ((basN n (i + 1)).map (Value.int .i64)), Blk b4 87 [.slice none 0 0, .slice none 0 0, .slice none 0 0], F]) (by (exact Ent.auto)) ?_
    exact rowsN_succ.trans (by (exact Ent.auto))
end Go.Proofs.YtpcnapidlhpbkaaGreatDoor
