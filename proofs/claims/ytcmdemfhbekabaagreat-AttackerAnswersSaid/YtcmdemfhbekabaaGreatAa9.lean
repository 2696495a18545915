/- Contracts of functions of the given program, and lemmas about plain lists and numbers: what the laws of this seat lean on. -/
import Derived.Test.YtcmdemfhbekabaaGreatAa8
namespace Go.Proofs.YtcmdemfhbekabaaGreat
open Go.Eng Go.Sol
attribute [local irreducible] opK wpList Code.wp Exit.then Exit.inBlock fnPost bodyPost Nx Calls Oper.wp Rd Rds Wr Ent Stars Blk Again Vec FnSpec wpMix QRun Stop Upto wpAt
/-! What each cell can be: all tables are tried -/
abbrev SeenE := Option (Nat × List (Int × Unit))
def seenV : SeenE → Value
  | none => .map none
  | some p => .map (some p.1)
abbrev mapB (b : Nat) (l : List (Int × Unit)) : Res := MapS (Value.int .i64) (fun _ : Unit => Value.bool true) b l
def seenR : SeenE → Res
  | none => Stars []
  | some p => mapB p.1 p.2
def CellOk (o : SeenE) (Q : Int → Prop) : Prop := match o with
  | none => ∀ z, ¬ Q z
  | some p => (p.2.map (·.1)).Nodup ∧ ∀ z, z ∈ p.2.map (·.1) ↔ Q z
theorem CellOk.congr {o : SeenE} {Q Q' : Int → Prop} (h : CellOk o Q) (hq : ∀ z, Q' z ↔ Q z) : CellOk o Q' := by
  cases o with
  | none => exact fun z hz => h z ((hq z).1 hz)
  | some p => exact ⟨h.1, fun z => (h.2 z).trans (hq z).symm⟩
theorem CellOk.fresh {Q Q' : Int → Prop} (b : Nat) {v : Int} (h : CellOk none Q) (hq : ∀ z, Q' z ↔ z = v ∨ Q z) : CellOk (some (b, mset [] v ())) Q' :=
  ⟨mset_nodup (by simp), fun z => by
    rw [mset_keys, hq]
    have := h z
    simp [this]⟩
theorem CellOk.more {Q Q' : Int → Prop} {b : Nat} {l : List (Int × Unit)} {v : Int} (h : CellOk (some (b, l)) Q) (hq : ∀ z, Q' z ↔ z = v ∨ Q z) : CellOk (some (b, mset l v ())) Q' :=
  ⟨mset_nodup h.1, fun z => by rw [mset_keys, hq, h.2]⟩
/-- The tables that have been tried and agree. -/
def Vis (n : Nat) (U : List Nat) (rs : List Int) (S : List (List Int)) (cur : Int) (t : List Int) : Prop := t ∈ S ∧ ∃ E, InD rs E ∧ numD rs E < cur ∧ t = tabD n U E
theorem vis_step {n : Nat} {U : List Nat} {rs D : List Int} {S : List (List Int)} (hD : InD rs D) (t : List Int) : Vis n U rs S (numD rs D + 1) t ↔ Vis n U rs S (numD rs D) t ∨ (t ∈ S ∧ t = tabD n U D) := by
  constructor
  · rintro ⟨h1, E, h2, h3, h4⟩
    by_cases he : numD rs E = numD rs D
    · right
      rw [h4, numD_inj h2 hD he]
      exact ⟨by rw [← numD_inj h2 hD he, ← h4]; exact h1, rfl⟩
    · exact .inl ⟨h1, E, h2, by omega, h4⟩
  · rintro (⟨h1, E, h2, h3, h4⟩ | ⟨h1, h2⟩)
    · exact ⟨h1, E, h2, by omega, h4⟩
    · exact ⟨h1, D, hD, by omega, h2⟩
structure GoodS (n : Nat) (st : List SeenE) (fd : Bool) (V : List Int → Prop) : Prop where
  len : st.length = n
  cell : ∀ j, j < n → CellOk (st.getD j default) (fun z => ∃ t, V t ∧ t.getD j 0 = z)
  found : fd = true ↔ ∃ t, V t
theorem GoodS.congr {n : Nat} {st : List SeenE} {fd : Bool} {V V' : List Int → Prop} (h : GoodS n st fd V) (hv : ∀ t, V' t ↔ V t) : GoodS n st fd V' := by
  obtain rfl : V' = V := funext fun t => propext (hv t)
  exact h
theorem seen_get {st : List SeenE} {k : Nat} (hk : k < st.length) : (st.map seenR)[k]? = some (seenR (st.getD k default)) := by
  rw [List.getElem?_map, List.getD_eq_getElem?_getD, List.getElem?_eq_getElem hk]; rfl
theorem seen_set (st : List SeenE) (k : Nat) (x : SeenE) : (st.map seenR).set k (seenR x) = (st.set k x).map seenR := by rw [List.map_set]
theorem sumC_bd {t : List Int} {M : Int} (hM : 0 ≤ M) (h : ∀ c, 0 ≤ t.getD c 0 ∧ t.getD c 0 ≤ M) : ∀ cs : List Nat, 0 ≤ sumC t cs ∧ sumC t cs ≤ cs.length * M
  | [] => by simp [sumC]
  | c :: cs => by
    obtain ⟨h1, h2⟩ := sumC_bd hM h cs
    have := h c
    rw [sumC, List.length_cons, Int.natCast_succ, Int.add_mul, Int.one_mul]
    constructor <;> omega
theorem tabD_bd {n : Nat} {U : List Nat} {rs D : List Int} (hD : InD rs D) (hlen : rs.length = U.length) (hr : ∀ i, i < rs.length → rs.getD i 0 ≤ 1000001) (c : Nat) : 0 ≤ (tabD n U D).getD c 0 ∧ (tabD n U D).getD c 0 ≤ 1000000 := by
  by_cases hn : c < n
  · rw [tabD_get hn]
    split
    · rename_i hm
      have hi := List.idxOf_lt_length_of_mem hm
      have h1 := hD.at (j := U.idxOf c) (by omega)
      have h2 := hr (U.idxOf c) (by omega)
      omega
    · decide
  · rw [getD_ge (by rw [tabD_len]; omega)]; decide
theorem Rd.vecAt (k : Nat) {W : World} {I : PH} {R : List Res} {t : TypeId} {A : Option Addr} {n c : Nat} {l : List Int} {i : Nat} {v : Int} (hk : nthL R k = some (Vec t 1 A n c (l.map (Value.int .i64)))) (hi : i < l.length) (hv : l.getD i 0 = v) : Rd W I R ((ad A).add (i * 1)) (.int .i64 v) := by
  subst hv
  exact Rd.vecEl k (f := Value.int .i64) hk hi
abbrev seenA (bs n : Nat) (st : List SeenE) : Res := Vec 143 1 (some ⟨bs, 0, none⟩) n n (st.map seenV)
theorem nil_seen (n : Nat) {R : List Res} : Ent R (Stars (List.replicate n (seenR none)) :: R) := by
  induction n with
  | zero => exact Ent.stars_nil _
  | succ n ih =>
    rw [List.replicate_succ']
    exact ih.trans ((Ent.stars_nil _).trans Ent.bundle)
theorem seen_put {st : List SeenE} {k b : Nat} {l : List (Int × Unit)} {R : List Res} (hk : k < st.length) : Ent (mapB b l :: Stars (st.map seenR) :: R) (Stars ((st.set k (some (b, l))).map seenR) :: R) := by
  have h1 := Ent.takeOut k (R := mapB b l :: R) (seen_get hk)
  have h2 := Ent.putIn k (B := st.map seenR) (R := R) (r := mapB b l) (by rw [List.length_map]; exact hk)
  rw [show (st.map seenR).set k (mapB b l) = (st.set k (some (b, l))).map seenR from seen_set st k (some (b, l))] at h2
  exact (Ent.swap _ _ _).trans (h1.trans ((Ent.drop (Ent.swap _ _ _)).trans h2))
theorem seen_back {st : List SeenE} {k b : Nat} {l : List (Int × Unit)} {R : List Res} (hk : k < st.length) : Ent (mapB b l :: Stars ((st.map seenR).eraseIdx k) :: R) (Stars ((st.set k (some (b, l))).map seenR) :: R) := by
  have h2 := Ent.putIn k (B := st.map seenR) (R := R) (r := mapB b l) (by rw [List.length_map]; exact hk)
  rw [show (st.map seenR).set k (mapB b l) = (st.set k (some (b, l))).map seenR from seen_set st k (some (b, l))] at h2
  exact h2
theorem seenV_set {st : List SeenE} {k b : Nat} {l l' : List (Int × Unit)} (hk : k < st.length) (h : st.getD k default = some (b, l)) : (st.set k (some (b, l'))).map seenV = st.map seenV := by
  rw [List.map_set]
  have e : (st.map seenV)[k]'(by rw [List.length_map]; exact hk) = seenV (some (b, l')) := by
    rw [List.getElem_map]
    rw [List.getD_eq_getElem?_getD, List.getElem?_eq_getElem hk] at h
    rw [show st[k] = some (b, l) from h]; rfl
  rw [← e]
  exact List.set_getElem_self _
def ValsPost (n : Nat) (L : List Eqn) (v : Value) (R' : List Res) : Prop :=
  ∃ (A' : Option Addr) (c' : Nat) (o : List Row), o.map (·.2.2) = (if solsOf n L = [] then [] else (List.range n).map (valsOf n L)) ∧ v = .slice A' o.length c' ∧ R' = rowsR A' c' o
theorem keys_len {xs : List Int} (hn : xs.Nodup) (hz : ∀ z ∈ xs, 0 ≤ z ∧ z < 1000001) : xs.length ≤ 1000001 := by
  have h1 := srtL_sorted xs
  have h2 : (srtL xs).Nodup := (List.mergeSort_perm xs _).nodup_iff.2 hn
  have h3 := asc_room ((h1.and h2).imp fun h => Int.lt_iff_le_and_ne.2 h) (a := 0) (b := 1000001) fun x hx => hz x (srtL_mem xs x |>.1 hx)
  rw [srtL_len] at h3
  omega
theorem row_set {o : List Row} {k : Nat} (x : Row) : (o.map rwR).set k (rwR x) = (o.set k x).map rwR := by rw [List.map_set]
theorem row_getw {o : List Row} {k : Nat} (hk : k < o.length) : (o.map rwR)[k]? = some (rwR (o.getD k default)) := by
  rw [List.getElem?_map, List.getD_eq_getElem?_getD, List.getElem?_eq_getElem hk]; rfl
set_option maxRecDepth 10000 in
set_option maxHeartbeats 64000000 in
theorem values_end (w : World) (F : Res) (n bs : Nat) (L : List Eqn) (fd : Bool) (st : List SeenE) (I0 I : PH) (hle : PH.le I0 I) (hn1 : 1 ≤ n) (hn : n ≤ 4096) (hG : GoodS n st fd (fun t => t ∈ solsOf n L)) (hb : ∀ s ∈ solsOf n L, ∀ j, 0 ≤ s.getD j 0 ∧ s.getD j 0 ≤ 1000000) :
    Nx ⟨Tryz.prog, 115, w⟩ [(0, .int .i64 (n : Int)), (5, .slice (some ⟨bs, 0, none⟩) n n), (6, .bool fd)] I [seenA bs n st, Stars (st.map seenR), F]
      (Code.wp Tryz.prog (cr (cr (cr (cr (cr (cl (cr (bodyOf Tryz.f73)))))))) (fnPost Tryz.prog Tryz.f73 I0 F w (ValsPost n L))) := by
  unfold ValsPost
  cases fd with
  | false =>
    have hnil : solsOf n L = [] := by
      cases hS : solsOf n L with
      | nil => rfl
      | cons t T =>
        have := hG.found.2 ⟨t, by rw [hS]; simp⟩
        cases this
    rw [if_pos hnil]
    repeat' first
      | ((with_reducible refine Nx.is_wp ?_); first | refine Nx.wo ?_ | refine Nx.zp (fun hc => ?_) (fun hc => ?_))
      | (refine Nx.zo ?_; first | refine Nx.opr rfl rfl ?_ | refine Nx.so ?_ | refine Nx.sb (fun bx => ?_) | refine Nx.sa (fun A2 c2 => ?_))
      | ((with_reducible refine Nx.is_at ?_); first | refine Nx.a ?_ | refine Nx.zd ?_ | refine Nx.zs (fun hc => ?_) (fun hc => ?_))
      | ((with_reducible refine Nx.is_mix ?_); first | refine Nx.m ?_ | refine Nx.zm ?_ | refine Nx.zt (fun hc => ?_) (fun hc => ?_))
      | refine Nx.zx ?_ | fail
    exact Nx.imm_le hle (Nx.ret_fn rfl [_, _] ⟨none, 0, [], rfl, rfl, rfl⟩ ((Ent.vec_nil 25 1 _).trans ((Ent.stars_nil _).trans (by (exact Ent.auto)))))
  | true =>
    obtain ⟨t0, ht0⟩ := hG.found.1 rfl
    rw [if_neg (fun h => by rw [h] at ht0; cases ht0)]
    have hsome : ∀ j, j < n → ∃ b ps, st.getD j default = some (b, ps) ∧ (ps.map (·.1)).Nodup ∧ (∀ z, z ∈ ps.map (·.1) ↔ ∃ s ∈ solsOf n L, s.getD j 0 = z) ∧ ps.length ≤ 1000001 := fun j hj => by
      have hc := hG.cell j hj
      cases hs : st.getD j default with
      | none => rw [hs] at hc; exact absurd ⟨t0, ht0, rfl⟩ (hc (t0.getD j 0))
      | some p =>
        obtain ⟨b, ps⟩ := p
        rw [hs] at hc
        refine ⟨b, ps, rfl, hc.1, fun z => (hc.2 z).trans ⟨fun ⟨t, h1, h2⟩ => ⟨t, h1, h2⟩, fun ⟨t, h1, h2⟩ => ⟨t, h1, h2⟩⟩, ?_⟩
        rw [← List.length_map (f := (·.1))]
        refine keys_len hc.1 fun z hz => ?_
        obtain ⟨t, h1, rfl⟩ := (hc.2 z).1 hz
        have := hb t h1 j
        omega
    have hstl := hG.len
    clear hG hb
    repeat' first
      | ((with_reducible refine Nx.is_wp ?_); first | refine Nx.wo ?_ | refine Nx.zp (fun hc => ?_) (fun hc => ?_))
      | (refine Nx.zo ?_; first | refine Nx.opr rfl rfl ?_ | refine Nx.makeSlice (by_ := 24) rfl rfl rfl rfl rfl rfl rfl rfl rfl (by omega) (by unfold maxLen; omega) (fun bo => ?_) | refine Nx.so ?_ | refine Nx.sb (fun bx => ?_) | refine Nx.sa (fun A2 c2 => ?_))
      | ((with_reducible refine Nx.is_at ?_); first | refine Nx.a ?_ | refine Nx.zd ?_ | refine Nx.zs (fun hc => ?_) (fun hc => ?_))
      | ((with_reducible refine Nx.is_mix ?_); first | refine Nx.m ?_ | refine Nx.zm ?_ | refine Nx.zt (fun hc => ?_) (fun hc => ?_))
      | refine Nx.zx ?_ | fail
    refine Nx.p_loop (σ := Nat × List Row) (fun s => [(16, .slice (some ⟨bo, 0, none⟩) n n), (85, .slice (some ⟨bs, 0, none⟩) n n), (86, .int .i64 (n : Int)), (87, .int .i64 (s.1 : Int))])
      (fun s => [Vec 25 1 (some ⟨bo, 0, none⟩) n n (s.2.map rowV), Stars (s.2.map rwR), seenA bs n st, Stars ((st.drop s.1).map seenR), F]) (fun s => s.1 ≤ n ∧ s.2.length = n ∧ (∀ i, i < s.1 → (s.2.getD i default).2.2 = valsOf n L i) ∧ ∀ i, s.1 ≤ i → i < n → s.2.getD i default = (none, 0, [])) (fun s => n - s.1) (0, List.replicate n (none, 0, [])) rfl ⟨Nat.zero_le _, List.length_replicate, fun i hi => absurd hi (Nat.not_lt_zero _), fun i _ hi => by rw [List.getD_eq_getElem?_getD, List.getElem?_replicate, if_pos hi]; rfl⟩ ⟨rfl, rfl, rfl, rfl, trivial⟩ ((nil_rwR n).trans (by simp only [List.map_replicate, List.drop_zero, rowV, List.length_nil]; (exact Ent.auto))) ?_
    rintro ⟨k, o⟩ ⟨hk, hol, hdone, hnil⟩
    dsimp only at hk hol hdone hnil ⊢
    by_cases hkn : k < n
    case neg =>
      obtain rfl : k = n := by omega
      repeat' first
        | ((with_reducible refine Nx.is_wp ?_); first | refine Nx.wo ?_ | refine Nx.zp (fun hc => ?_) (fun hc => ?_))
        | (refine Nx.zo ?_; first | refine Nx.opr rfl rfl ?_ | refine Nx.so ?_ | refine Nx.sb (fun bx => ?_) | refine Nx.sa (fun A2 c2 => ?_))
        | ((with_reducible refine Nx.is_at ?_); first | refine Nx.a ?_ | refine Nx.zd ?_ | refine Nx.zs (fun hc => ?_) (fun hc => ?_))
        | ((with_reducible refine Nx.is_mix ?_); first | refine Nx.m ?_ | refine Nx.zm ?_ | refine Nx.zt (fun hc => ?_) (fun hc => ?_))
        | refine Nx.zx ?_ | fail
      refine Nx.imm_le hle (Nx.ret_fn rfl [_, _] ⟨some ⟨bo, 0, none⟩, k, o, ?_, by rw [hol], rfl⟩ (by rw [hol]; (exact Ent.auto)))
      refine List.ext_getElem? fun i => ?_
      rw [List.getElem?_map, List.getElem?_map]
      by_cases hi : i < k
      · have h3 := hdone i hi
        rw [List.getElem?_eq_getElem (show i < o.length by omega), List.getElem?_range hi]
        rw [List.getD_eq_getElem?_getD, List.getElem?_eq_getElem (show i < o.length by omega)] at h3
        exact congrArg some h3
      · rw [List.getElem?_eq_none (show o.length ≤ i by omega), List.getElem?_eq_none (show (List.range k).length ≤ i by rw [List.length_range]; omega)]
        rfl
    obtain ⟨bk, ps, hst, hnd, hmem, hpl⟩ := hsome k hkn
    have hok0 := hnil k (Nat.le_refl _) hkn
    have hsr : ∀ (W : World) (R : List Res) (r0 r1 : Res), Rd W I (r0 :: r1 :: seenA bs n st :: R) ((ad (some ⟨bs, 0, none⟩)).add (k * 1)) (.map (some bk)) := fun W R r0 r1 => by
      have h := Rd.vecEl (W := W) (I := I) (R := r0 :: r1 :: seenA bs n st :: R) 2 (f := seenV) (l := st) (i := k) rfl (by omega)
      rw [hst] at h
      exact h
    have hdr : (st.drop k).map seenR = seenR (some (bk, ps)) :: (st.drop (k + 1)).map seenR := by
      rw [List.drop_eq_getElem_cons (show k < st.length by omega), List.map_cons]
      rw [List.getD_eq_getElem?_getD, List.getElem?_eq_getElem (show k < st.length by omega)] at hst
      rw [show st[k] = some (bk, ps) from hst]
    rw [hdr]
    refine Nx.ent (R' := [Vec 25 1 (some ⟨bo, 0, none⟩) n n (o.map rowV), Stars (o.map rwR), seenA bs n st, Stars (mapB bk ps :: (st.drop (k + 1)).map seenR), F]) (by unfold mapB seenR; (exact Ent.auto)) ?_
    refine Nx.ent (R' := [mapB bk ps, rwR (none, 0, []), seenA bs n st, Vec 25 1 (some ⟨bo, 0, none⟩) n n (o.map rowV), Stars ((o.map rwR).eraseIdx k), Stars ((st.drop (k + 1)).map seenR), F]) ?_ ?_
    · refine Ent.trans (R' := [Stars (mapB bk ps :: (st.drop (k + 1)).map seenR), Stars (o.map rwR), Vec 25 1 (some ⟨bo, 0, none⟩) n n (o.map rowV), seenA bs n st, F]) (by (exact Ent.auto)) ((Ent.takeOut 0 rfl).trans ?_)
      have hgo := row_getw (o := o) (k := k) (by omega)
      rw [hok0] at hgo
      refine Ent.trans (R' := [Stars (o.map rwR), mapB bk ps, Stars ((st.drop (k + 1)).map seenR), Vec 25 1 (some ⟨bo, 0, none⟩) n n (o.map rowV), seenA bs n st, F]) (by rw [List.eraseIdx_cons_zero]; (exact Ent.auto)) ((Ent.takeOut k hgo).trans (by (exact Ent.auto)))
    repeat' first
      | ((with_reducible refine Nx.is_wp ?_); first | refine Nx.wo ?_ | refine Nx.zp (fun hc => ?_) (fun hc => ?_))
      | (refine Nx.zo ?_; first | refine Nx.opr rfl rfl ?_ | refine Nx.indexAddr_nat (A := some ⟨bs, 0, none⟩) (i := k) (sz := 1) rfl rfl rfl rfl rfl hkn rfl ?_ | refine Nx.load rfl rfl rfl (hsr _ _ _ _) ?_ | refine Nx.mapRange 0 (Value.int .i64) (fun _ : Unit => Value.bool true) rfl rfl rfl rfl (fun r => ?_) | refine Nx.so ?_ | refine Nx.sb (fun bx => ?_) | refine Nx.sa (fun A2 c2 => ?_))
      | ((with_reducible refine Nx.is_at ?_); first | refine Nx.a ?_ | refine Nx.zd ?_ | refine Nx.zs (fun hc => ?_) (fun hc => ?_))
      | ((with_reducible refine Nx.is_mix ?_); first | refine Nx.m ?_ | refine Nx.zm ?_ | refine Nx.zt (fun hc => ?_) (fun hc => ?_))
      | refine Nx.zx ?_ | fail
    have hos0 : o.set k (none, 0, []) = o := by
      rw [← hok0, List.getD_eq_getElem?_getD, List.getElem?_eq_getElem (show k < o.length by omega)]
      exact List.set_getElem_self _
    refine Nx.p_loop (σ := Row × List (Int × Unit)) (fun s => [(16, .slice (some ⟨bo, 0, none⟩) n n), (17, .int .i64 (k : Int)), (85, .slice (some ⟨bs, 0, none⟩) n n), (86, .int .i64 (n : Int)), (87, .int .i64 (k : Int)), (93, .pointer (some ⟨r, 0, none⟩))])
      (fun s => [IterR (Value.int .i64) (fun _ : Unit => Value.bool true) bk r ps s.2, rwR s.1, seenA bs n st, Vec 25 1 (some ⟨bo, 0, none⟩) n n ((o.set k s.1).map rowV), Stars ((o.map rwR).eraseIdx k), Stars ((st.drop (k + 1)).map seenR), F]) (fun s => (s.1.2.2 ++ s.2.map (·.1)).Perm (ps.map (·.1))) (fun s => s.2.length) ((none, 0, []), ps) rfl (List.Perm.refl _) ⟨rfl, rfl, rfl, rfl, rfl, rfl, trivial⟩ (by dsimp only; rw [hos0]; (exact Ent.auto)) ?_
    rintro ⟨⟨Ar, cr', xs⟩, left⟩ hp
    dsimp only at hp ⊢
    have hxl : xs.length + left.length ≤ 1000001 := by
      have := hp.length_eq
      rw [List.length_append, List.length_map, List.length_map] at this
      omega
    have hol2 : (o.set k (Ar, cr', xs)).length = n := by rw [List.length_set]; exact hol
    have hrv : ∀ (W : World) (R : List Res) (r0 r1 r2 : Res), Rd W I (r0 :: r1 :: r2 :: Vec 25 1 (some ⟨bo, 0, none⟩) n n ((o.set k (Ar, cr', xs)).map rowV) :: R) ((ad (some ⟨bo, 0, none⟩)).add (k * 1)) (.slice Ar xs.length cr') := fun W R r0 r1 r2 => by
      have h := Rd.vecEl (W := W) (I := I) (R := r0 :: r1 :: r2 :: Vec 25 1 (some ⟨bo, 0, none⟩) n n ((o.set k (Ar, cr', xs)).map rowV) :: R) 3 (f := rowV) (l := o.set k (Ar, cr', xs)) (i := k) rfl (by omega)
      rw [show (o.set k (Ar, cr', xs)).getD k default = (Ar, cr', xs) by rw [List.getD_eq_getElem?_getD, List.getElem?_set_self (by omega)]; rfl] at h
      exact h
    have hSo := Sort_spec Ar cr' xs I (by omega)
    repeat' first
      | ((with_reducible refine Nx.is_wp ?_); first | refine Nx.wo ?_ | refine Nx.zp (fun hc => ?_) (fun hc => ?_))
      | (refine Nx.zo ?_; first | refine Nx.opr rfl rfl ?_ | refine Nx.mapNext 0 rfl rfl rfl (fun hl0 => ?_) (fun pa p pc hl1 => ?_) | refine Nx.mapEntry 0 rfl rfl rfl ?_ | refine Nx.indexAddr_nat (A := some ⟨bo, 0, none⟩) (i := k) (sz := 1) rfl rfl rfl rfl rfl hkn rfl ?_ | refine Nx.load rfl rfl rfl (hrv _ _ _ _ _) ?_ | refine Nx.append_lit 1 rfl rfl rfl rfl (by kernel_rfl) rfl rfl rfl rfl (by omega) (fun A8 c8 => ?_) | refine Nx.store_of 3 rowV (z := (A8, c8, xs ++ [p.1])) rfl (by unfold rowV; dsimp only; rw [List.length_append]; rfl) rfl rfl rfl rfl (by omega) ?_ | (refine Nx.call rfl rfl rfl (by kernel_rfl) rfl hSo (by unfold rwR iR; (exact Ent.auto)) ?_; rintro _ _ ⟨rfl, rfl⟩) | refine Nx.so ?_ | refine Nx.sb (fun bx => ?_) | refine Nx.sa (fun A2 c2 => ?_))
      | ((with_reducible refine Nx.is_at ?_); first | refine Nx.a ?_ | refine Nx.zd ?_ | refine Nx.zs (fun hc => ?_) (fun hc => ?_))
      | ((with_reducible refine Nx.is_mix ?_); first | refine Nx.m ?_ | refine Nx.zm ?_ | refine Nx.zt (fun hc => ?_) (fun hc => ?_))
      | refine Nx.zx ?_ | fail
    · subst hl0
      rw [List.map_nil, List.append_nil] at hp
      have hsv := srt_vals (hp.nodup_iff.2 hnd) fun z => (hp.mem_iff).trans (hmem z)
      refine Nx.again (k + 1, o.set k (Ar, cr', srtL xs)) ⟨hkn, by dsimp only; rw [List.length_set]; exact hol, fun i hi => ?_, fun i hi1 hi2 => ?_⟩ (by dsimp only; omega) ⟨rfl, rfl, rfl, rfl, trivial⟩ ?_
      · dsimp only at hi ⊢
        by_cases hik : i = k
        · subst hik
          rw [List.getD_eq_getElem?_getD, List.getElem?_set_self (by omega)]
          exact hsv
        · rw [List.getD_eq_getElem?_getD, List.getElem?_set_ne (Ne.symm hik), ← List.getD_eq_getElem?_getD]
          exact hdone i (by omega)
      · dsimp only at hi1 ⊢
        rw [List.getD_eq_getElem?_getD, List.getElem?_set_ne (by omega), ← List.getD_eq_getElem?_getD]
        exact hnil i (by omega) hi2
      · dsimp only
        have hV : (o.set k (Ar, cr', xs)).map rowV = (o.set k (Ar, cr', srtL xs)).map rowV := by
          rw [List.map_set, List.map_set]
          congr 1
          unfold rowV; dsimp only; rw [srtL_len]
        rw [← row_set, ← hV]
        refine Ent.trans (R' := [rwR (Ar, cr', srtL xs), Stars ((o.map rwR).eraseIdx k), Vec 25 1 (some ⟨bo, 0, none⟩) n n ((o.set k (Ar, cr', xs)).map rowV), seenA bs n st, Stars ((st.drop (k + 1)).map seenR), F]) (by unfold rwR iR; (exact Ent.auto)) ((Ent.putIn k (by rw [List.length_map]; omega)).trans (by (exact Ent.auto)))
    · subst hl1
      refine Nx.again ((A8, c8, xs ++ [p.1]), pa ++ pc) ?_ (by simp) ⟨rfl, rfl, rfl, rfl, rfl, rfl, trivial⟩ ?_
      · dsimp only
        rw [List.map_append, List.append_assoc]
        rw [List.map_append, List.map_cons] at hp
        exact (List.Perm.append_left xs (List.perm_middle (l₁ := pa.map (·.1)) (a := p.1) (l₂ := pc.map (·.1))).symm).trans hp
      · dsimp only
        refine Ent.trans ?_ (Ent.iterAt (p := p))
        rw [List.set_set]
        unfold rwR iR
        dsimp only
        rw [List.length_append (bs := [_]), List.map_append]
        (exact Ent.auto)
set_option maxRecDepth 10000 in
set_option maxHeartbeats 64000000 in
theorem values_spec (A : Option Addr) (c : Nat) (l : List EqR) (n : Nat) (I : PH) (hl : Eqs I A c l) (hg : ∀ q ∈ l, GoodE n q) (hn1 : 1 ≤ n) (hn : n ≤ 4096) (h9 : (allC l).length ≤ 1000000) :
    FnSpec Tryz.prog 73 [.int .i64 (n : Int), .slice A l.length c] I [] (ValsPost n (eqns l)) := by
  have hlen := hl.len
  have hSt := dstart_spec A c l n I hl hg hn h9
  unfold DStartPost at hSt
  refine FnSpec.enterP Tryz.func73 rfl Tryz.ntmps73 rfl fun w F => ?_
  repeat' first
    | refine Nx.p_scope rfl (by repeat first | exact NoG.fn | refine NoG.then_ ?_ | refine NoG.inB ?_) ?_
    | ((with_reducible refine Nx.is_wp ?_); first | refine Nx.p_stopr 4 rfl ?_ | refine Nx.wo ?_ | refine Nx.zp (fun hc => ?_) (fun hc => ?_))
    | (refine Nx.zo ?_; first | refine Nx.opr rfl rfl ?_ | refine Nx.makeSlice (by_ := 8) rfl rfl rfl rfl rfl rfl rfl rfl rfl (by omega) (by unfold maxLen; omega) (fun bs => ?_) | (refine Nx.call (Rpre := []) rfl rfl rfl (by kernel_rfl) rfl hSt (Ent.refl _) ?_; rintro _ _ ⟨b, At, ct, As, cs, bt, rfl, rfl⟩) | refine Nx.so ?_ | refine Nx.sb (fun bx => ?_) | refine Nx.sa (fun A2 c2 => ?_))
    | ((with_reducible refine Nx.is_at ?_); first | refine Nx.a ?_ | refine Nx.zd ?_ | refine Nx.zs (fun hc => ?_) (fun hc => ?_))
    | ((with_reducible refine Nx.is_mix ?_); first | refine Nx.m ?_ | refine Nx.zm ?_ | refine Nx.zt (fun hc => ?_) (fun hc => ?_))
    | refine Nx.zx ?_ | fail
  refine Nx.unstop ?_
  refine Nx.weak (e' := [(0, .int .i64 (n : Int)), (1, .slice A l.length c), (5, .slice (some ⟨bs, 0, none⟩) n n), (6, .bool false), (7, .pointer (some ⟨b, 0, none⟩))]) (R' := [iR At ct (natI (touch n (eqns l))), iR As cs (roomsOf n (eqns l)), digR b At As ct cs bt n (touch n (eqns l)) (roomsOf n (eqns l)), tabR bt n (List.replicate n 0), Vec 143 1 (some ⟨bs, 0, none⟩) n n (List.replicate n (Value.map none)), F]) ⟨rfl, rfl, rfl, rfl, rfl, trivial⟩ (by (exact Ent.auto)) ?_
  refine Nx.freezeAt 0 rfl fun I1 m1 hI1 hm1 h1 => ?_
  refine Nx.freezeAt 0 rfl fun I2 m2 hI2 hm2 h2 => ?_
  have hle := hI1.trans hI2
  have hc : Ints I2 At ct (natI (touch n (eqns l))) := SliceOf.mono hI2 (Vec.sliceOf hm1 h1)
  have hs : Ints I2 As cs (roomsOf n (eqns l)) := Vec.sliceOf hm2 h2
  replace hl := hl.mono hle
  have hU := touch_nd n (eqns l)
  have hin : ∀ i, i < (touch n (eqns l)).length → (touch n (eqns l)).getD i 0 < n := fun i hi => (mem_touch.1 (idx_at (touch_nd _ _) hi).1).1
  have hrl := rooms_len n (eqns l)
  have hval : ∀ q ∈ eqns l, 0 ≤ q.2 := fun q hq => by
    obtain ⟨x, hx, rfl⟩ := List.mem_map.1 hq
    exact (hg x hx).val.1
  have hrr : ∀ i, i < (roomsOf n (eqns l)).length → 1 ≤ (roomsOf n (eqns l)).getD i 0 ∧ (roomsOf n (eqns l)).getD i 0 ≤ 1000001 := fun i hi => by
    rw [rooms_get (by omega)]
    exact room_bd hval
  have htsol : ∀ D, InD (roomsOf n (eqns l)) D → (∀ q ∈ eqns l, sumC (tabD n (touch n (eqns l)) D) q.1 = q.2) → tabD n (touch n (eqns l)) D ∈ solsOf n (eqns l) := fun D hD h => tab_sol hg hD h
  have hsolt : ∀ s ∈ solsOf n (eqns l), ∃ D, InD (roomsOf n (eqns l)) D ∧ s = tabD n (touch n (eqns l)) D := fun s hs => sol_tab hg hs
  have hssum : ∀ s ∈ solsOf n (eqns l), ∀ q ∈ eqns l, sumC s q.1 = q.2 := fun s hs => ((mem_sols hg).1 hs).sum
  have hz0 : tabD n (touch n (eqns l)) ((roomsOf n (eqns l)).map fun _ => 0) = List.replicate n 0 := by
    refine ext_len (by rw [tabD_len, List.length_replicate]) fun c => ?_
    rw [zeros_at]
    by_cases hcn : c < n
    · rw [tabD_get hcn]
      split
      · rename_i hm
        have hi := List.idxOf_lt_length_of_mem hm
        rw [List.getD_eq_getElem?_getD, List.getElem?_map, List.getElem?_eq_getElem (by omega)]; rfl
      · rfl
    · exact getD_ge (by rw [tabD_len]; omega)
  have hin0 : InD (roomsOf n (eqns l)) ((roomsOf n (eqns l)).map fun _ => 0) := InD.of (List.length_map _) fun j hj => by
    rw [List.getD_eq_getElem?_getD, List.getElem?_map, List.getElem?_eq_getElem hj]
    have := hrr j hj
    exact ⟨Int.le_refl _, by show (0 : Int) < _; omega⟩
  have hnum0 : numD (roomsOf n (eqns l)) ((roomsOf n (eqns l)).map fun _ => 0) = 0 := by
    have := (zeros_in hin0).2
    rw [List.map_map] at this
    exact this
  rw [← hz0]
  unfold ValsPost
  generalize touch n (eqns l) = U at hc hU hin hrl htsol hsolt hz0 ⊢
  generalize roomsOf n (eqns l) = rs at hs hrl hrr htsol hsolt hz0 hin0 hnum0 ⊢
  rw [show (List.replicate n (Value.map none)) = (List.replicate n (none : SeenE)).map seenV by rw [List.map_replicate]; rfl]
  have hNx := fun D hD => next_spec b At As ct cs bt n U rs D I2 hc hs hD hrl hU hin hn fun i hi => (hrr i hi).2
  unfold NextPost at hNx
  repeat' first
    | ((with_reducible refine Nx.is_wp ?_); first | refine Nx.wo ?_ | refine Nx.zp (fun hc => ?_) (fun hc => ?_))
    | (refine Nx.zo ?_; first | refine Nx.opr rfl rfl ?_ | refine Nx.so ?_ | refine Nx.sb (fun bx => ?_) | refine Nx.sa (fun A2 c2 => ?_))
    | ((with_reducible refine Nx.is_at ?_); first | refine Nx.a ?_ | refine Nx.zd ?_ | refine Nx.zs (fun hc => ?_) (fun hc => ?_))
    | ((with_reducible refine Nx.is_mix ?_); first | refine Nx.m ?_ | refine Nx.zm ?_ | refine Nx.zt (fun hc => ?_) (fun hc => ?_))
    | refine Nx.zx ?_ | fail
  refine Nx.p_loop (σ := List Int × Int × Bool × Bool × List SeenE) (fun s => [(0, .int .i64 (n : Int)), (1, .slice A l.length c), (5, .slice (some ⟨bs, 0, none⟩) n n), (6, .bool s.2.2.2.1), (7, .pointer (some ⟨b, 0, none⟩)), (8, .bool s.2.2.1)])
    (fun s => [digR b At As ct cs bt n U rs, tabR bt n (tabD n U s.1), seenA bs n s.2.2.2.2, Stars (s.2.2.2.2.map seenR), F])
    (fun s => InD rs s.1 ∧ GoodS n s.2.2.2.2 s.2.2.2.1 (Vis n U rs (solsOf n (eqns l)) s.2.1) ∧ (s.2.2.1 = true → s.2.1 = numD rs s.1) ∧ (s.2.2.1 = false → s.2.1 = prodD rs)) (fun s => (prodD rs - s.2.1).toNat) (rs.map fun _ => 0, 0, true, false, List.replicate n none) rfl ⟨hin0, ?_, fun _ => hnum0.symm, fun h => (by cases h)⟩ ⟨rfl, rfl, rfl, rfl, rfl, rfl, trivial⟩ ?_ ?_
  · have hno : ∀ t, ¬ Vis n U rs (solsOf n (eqns l)) 0 t := fun t ⟨_, E, h1, h2, _⟩ => by have := (numD_bd h1).1; omega
    exact ⟨List.length_replicate, fun j hj => by
      rw [List.getD_eq_getElem?_getD, List.getElem?_replicate, if_pos hj]
      exact fun z ⟨t, h1, _⟩ => hno t h1, ⟨fun h => (by cases h), fun ⟨t, ht⟩ => absurd ht (hno t)⟩⟩
  · dsimp only
    rw [List.map_replicate (f := seenR)]
    exact (nil_seen n).trans (by unfold digR tabR seenA; (exact Ent.auto))
  rintro ⟨D, cur, more, fd, st⟩ ⟨hD, hG, hmt, hmf⟩
  dsimp only at hD hG hmt hmf ⊢
  cases more with
  | false =>
    have hcur := hmf rfl
    subst hcur
    clear hmt hmf
    have hall : ∀ t, t ∈ solsOf n (eqns l) ↔ Vis n U rs (solsOf n (eqns l)) (prodD rs) t := fun t => ⟨fun h => by
      obtain ⟨E, h1, h2⟩ := hsolt t h
      exact ⟨h, E, h1, (numD_bd h1).2, h2⟩, fun h => h.1⟩
    have hbd : ∀ s ∈ solsOf n (eqns l), ∀ j, 0 ≤ s.getD j 0 ∧ s.getD j 0 ≤ 1000000 := fun s h j => by
      obtain ⟨E, h1, rfl⟩ := hsolt s h
      exact tabD_bd h1 hrl (fun i hi => (hrr i hi).2) j
    repeat' first
      | ((with_reducible refine Nx.is_wp ?_); first | refine Nx.p_stops 26 rfl ?_ | refine Nx.wo ?_ | refine Nx.zp (fun hc => ?_) (fun hc => ?_))
      | (refine Nx.zo ?_; first | refine Nx.opr rfl rfl ?_ | refine Nx.so ?_ | refine Nx.sb (fun bx => ?_) | refine Nx.sa (fun A2 c2 => ?_))
      | ((with_reducible refine Nx.is_at ?_); first | refine Nx.a ?_ | refine Nx.zd ?_ | refine Nx.zs (fun hc => ?_) (fun hc => ?_))
      | ((with_reducible refine Nx.is_mix ?_); first | refine Nx.m ?_ | refine Nx.zm ?_ | refine Nx.zt (fun hc => ?_) (fun hc => ?_))
      | refine Nx.zx ?_ | fail
    refine Nx.unstop ?_
    refine Nx.weak ?_ ?_ (values_end w F n bs (eqns l) fd st I I2 hle hn1 hn (hG.congr hall) hbd)
    · exact ⟨rfl, rfl, rfl, trivial⟩
    · (exact Ent.auto)
  | true =>
    have hcur := hmt rfl
    subst hcur
    clear hmt hmf
    have hnx := hNx D hD
    have hnb := numD_bd hD
    have hns := fun D' (h : nextD rs D = some D') => nextD_some hD h
    have hne := fun (h : nextD rs D = none) => nextD_end hD h
    have hz : InD rs (zerD D 0) := (zeros_in hD).1
    have hvs := fun t => vis_step (n := n) (U := U) (S := solsOf n (eqns l)) hD t
    have hTs := htsol D hD
    have hTb := tabD_bd (n := n) hD hrl (fun i hi => (hrr i hi).2)
    have hTl := tabD_len n U D
    generalize tabD n U D = T at hnx hvs hTs hTb hTl
    repeat' first
      | ((with_reducible refine Nx.is_wp ?_); first | refine Nx.wo ?_ | refine Nx.zp (fun hc => ?_) (fun hc => ?_))
      | (refine Nx.zo ?_; first | refine Nx.opr rfl rfl ?_ | refine Nx.so ?_ | refine Nx.sb (fun bx => ?_) | refine Nx.sa (fun A2 c2 => ?_))
      | ((with_reducible refine Nx.is_at ?_); first | refine Nx.a ?_ | refine Nx.zd ?_ | refine Nx.zs (fun hc => ?_) (fun hc => ?_))
      | ((with_reducible refine Nx.is_mix ?_); first | refine Nx.m ?_ | refine Nx.zm ?_ | refine Nx.zt (fun hc => ?_) (fun hc => ?_))
      | refine Nx.zx ?_ | fail
    refine Nx.p_loop (σ := Nat) (fun i => [(0, .int .i64 (n : Int)), (1, .slice A l.length c), (5, .slice (some ⟨bs, 0, none⟩) n n), (6, .bool fd), (7, .pointer (some ⟨b, 0, none⟩)), (28, .slice A l.length c), (29, .int .i64 l.length), (30, .int .i64 (i : Int))])
      (fun _ => [digR b At As ct cs bt n U rs, tabR bt n T, seenA bs n st, Stars (st.map seenR), F]) (fun i => i ≤ l.length ∧ ∀ q ∈ l.take i, sumC T (eqn q).1 = q.2) (fun i => l.length - i) 0 rfl ⟨Nat.zero_le _, by simp⟩ ⟨rfl, rfl, rfl, rfl, rfl, rfl, rfl, rfl, trivial⟩ (by (exact Ent.auto)) ?_
    rintro i ⟨hi, hsum⟩
    by_cases hil : i < l.length
    · have hinq := hl.inner _ (getD_memQ hil)
      have hmq := getD_memQ hil
      have hgq := hg _ hmq
      have hes := take_snocQ hil
      have hrds : ∀ (W : World) (R : List Res), Rds W I2 R ((ad A).add (i * 2)) (eqC (l.getD i default)) := fun W R => hl.outer.rds hil
      have hqs : T ∈ solsOf n (eqns l) → sumC T (eqn (l.getD i default)).1 = (l.getD i default).2 := fun h => hssum T h _ (List.mem_map.2 ⟨_, hmq, rfl⟩)
      have hlq := good_len hgq
      generalize l.getD i default = q at hinq hgq hes hrds hqs hlq
      obtain ⟨⟨Ax, cx, ix⟩, z⟩ := q
      dsimp only at hinq hqs hlq
      replace hrds : ∀ (W : World) (R : List Res), Rds W I2 R ((ad A).add (i * 2)) [.slice Ax ix.length cx, .int .i64 z] := hrds
      repeat' first
        | ((with_reducible refine Nx.is_wp ?_); first | refine Nx.wo ?_ | refine Nx.zp (fun hc => ?_) (fun hc => ?_))
        | (refine Nx.zo ?_; first | refine Nx.opr rfl rfl ?_ | refine Nx.indexAddr_nat rfl rfl rfl rfl rfl hil (hl.outer.isSome (by omega) (by omega)) ?_ | refine Nx.loads rfl rfl rfl rfl (hrds _ _) rfl ?_ | refine Nx.so ?_ | refine Nx.sb (fun bx => ?_) | refine Nx.sa (fun A2 c2 => ?_))
        | ((with_reducible refine Nx.is_at ?_); first | refine Nx.a ?_ | refine Nx.zd ?_ | refine Nx.zs (fun hc => ?_) (fun hc => ?_))
        | ((with_reducible refine Nx.is_mix ?_); first | refine Nx.m ?_ | refine Nx.zm ?_ | refine Nx.zt (fun hc => ?_) (fun hc => ?_))
        | refine Nx.zx ?_ | fail
      revert bx; intro b10
      refine Nx.p_loop (σ := Nat) (fun j => [(0, .int .i64 (n : Int)), (1, .slice A l.length c), (5, .slice (some ⟨bs, 0, none⟩) n n), (6, .bool fd), (7, .pointer (some ⟨b, 0, none⟩)), (28, .slice A l.length c), (29, .int .i64 l.length), (30, .int .i64 (i : Int)), (10, .pointer (some ⟨b10, 0, none⟩)), (11, .int .i64 (sumC T ((ix.take j).map Int.toNat))), (35, .slice Ax ix.length cx), (36, .int .i64 ix.length), (37, .int .i64 (j : Int))])
        (fun _ => [Blk b10 93 [.slice Ax ix.length cx, .int .i64 z], digR b At As ct cs bt n U rs, tabR bt n T, seenA bs n st, Stars (st.map seenR), F]) (fun j => j ≤ ix.length) (fun j => ix.length - j) 0 rfl (Nat.zero_le _) ⟨rfl, rfl, rfl, rfl, rfl, rfl, rfl, rfl, rfl, rfl, rfl, rfl, rfl, trivial⟩ (by (exact Ent.auto)) ?_
      intro j hj
      have hj : j ≤ ix.length := hj
      have hsb := sumC_bd (M := 1000000) (by omega) hTb ((ix.take j).map Int.toNat)
      rw [List.length_map, List.length_take, Nat.min_eq_left hj] at hsb
      by_cases hjl : j < ix.length
      · have hxl := hgq.lt (ix.getD j default) (getD_memI hjl)
        have hts := take_snocJ hjl
        have hxr : ∀ (W : World) (R : List Res), Rd W I2 R ((ad Ax).add (j * 1)) (.int .i64 (ix.getD j default)) := fun W R => hinq.rd hjl
        generalize ix.getD j default = x at hxl hts hxr
        obtain ⟨y, rfl⟩ : ∃ y : Nat, x = y := ⟨x.toNat, by omega⟩
        have hyn : y < n := by omega
        have hss : sumC T ((ix.take (j + 1)).map Int.toNat) = sumC T ((ix.take j).map Int.toNat) + T.getD y 0 := by
          rw [hts, List.map_append, sumC_appC]
          show _ + (T.getD (y : Int).toNat 0 + 0) = _
          rw [Int.toNat_natCast]; omega
        have hTy := hTb y
        have hrv : ∀ (W : World) (R : List Res) (r0 r1 : Res), Rd W I2 (r0 :: r1 :: tabR bt n T :: R) ((ad (some ⟨bt, 0, none⟩)).add (y * 1)) (.int .i64 (T.getD y 0)) := fun W R r0 r1 => Rd.vecAt 2 rfl (by omega) rfl
        generalize sumC T ((ix.take j).map Int.toNat) = sm at hsb hss
        generalize T.getD y 0 = v at hTy hrv hss
        repeat' first
          | ((with_reducible refine Nx.is_wp ?_); first | refine Nx.wo ?_ | refine Nx.zp (fun hc => ?_) (fun hc => ?_))
          | (refine Nx.zo ?_; first | refine Nx.opr rfl rfl ?_ | refine Nx.indexAddr_nat (A := Ax) (i := j) (sz := 1) rfl rfl rfl rfl rfl hjl (hinq.isSome (by omega)) ?_ | refine Nx.load rfl rfl rfl (hxr _ _) ?_ | refine Nx.indexAddr_nat (A := some ⟨bt, 0, none⟩) (i := y) (sz := 1) rfl rfl rfl rfl rfl hyn rfl ?_ | refine Nx.load rfl rfl rfl (hrv _ _ _ _) ?_ | refine Nx.so ?_ | refine Nx.sb (fun bx => ?_) | refine Nx.sa (fun A2 c2 => ?_))
          | ((with_reducible refine Nx.is_at ?_); first | refine Nx.a ?_ | refine Nx.zd ?_ | refine Nx.zs (fun hc => ?_) (fun hc => ?_))
          | ((with_reducible refine Nx.is_mix ?_); first | refine Nx.m ?_ | refine Nx.zm ?_ | refine Nx.zt (fun hc => ?_) (fun hc => ?_))
          | refine Nx.zx ?_ | fail
        exact Nx.again (j + 1) hjl (by omega) ⟨rfl, rfl, rfl, rfl, rfl, rfl, rfl, rfl, rfl, by rw [hss]; rfl, rfl, rfl, rfl, trivial⟩ (by (exact Ent.auto))
      obtain rfl : j = ix.length := by omega
      rw [List.take_length] at hsb ⊢
      replace hqs : T ∈ solsOf n (eqns l) → sumC T (ix.map Int.toNat) = z := hqs
      have hone : sumC T (eqn ((Ax, cx, ix), z)).1 = sumC T (ix.map Int.toNat) := rfl
      generalize sumC T (ix.map Int.toNat) = sm at hsb hqs hone
      by_cases hsz : sm = z
      · repeat' first
          | ((with_reducible refine Nx.is_wp ?_); first | refine Nx.wo ?_ | refine Nx.zp (fun hc => ?_) (fun hc => ?_))
          | (refine Nx.zo ?_; first | refine Nx.opr rfl rfl ?_ | refine Nx.so ?_ | refine Nx.sb (fun bx => ?_) | refine Nx.sa (fun A2 c2 => ?_))
          | ((with_reducible refine Nx.is_at ?_); first | refine Nx.a ?_ | refine Nx.zd ?_ | refine Nx.zs (fun hc => ?_) (fun hc => ?_))
          | ((with_reducible refine Nx.is_mix ?_); first | refine Nx.m ?_ | refine Nx.zm ?_ | refine Nx.zt (fun hc => ?_) (fun hc => ?_))
          | refine Nx.zx ?_ | fail
        refine Nx.again (i + 1) ⟨hil, fun q hq => ?_⟩ (by omega) ⟨rfl, rfl, rfl, rfl, rfl, rfl, rfl, rfl, trivial⟩ (by (exact Ent.auto))
        rw [hes] at hq
        rcases List.mem_append.1 hq with hq | hq
        · exact hsum q hq
        · rw [List.mem_singleton.1 hq, hone]; exact hsz
      · have hG' : GoodS n st fd (Vis n U rs (solsOf n (eqns l)) (numD rs D + 1)) := hG.congr fun t => (hvs t).trans ⟨fun h => h.elim id fun h => absurd (hqs (h.2 ▸ h.1)) hsz, .inl⟩
        repeat' first
          | ((with_reducible refine Nx.is_wp ?_); first | refine Nx.wo ?_ | refine Nx.zp (fun hc => ?_) (fun hc => ?_))
          | (refine Nx.zo ?_; first | refine Nx.opr rfl rfl ?_ | (refine Nx.call rfl rfl rfl (by kernel_rfl) rfl hnx (by unfold digR tabR; (exact Ent.auto)) ?_; rintro _ _ (⟨D', hn', rfl, rfl⟩ | ⟨hn', rfl, rfl⟩)) | refine Nx.so ?_ | refine Nx.sb (fun bx => ?_) | refine Nx.sa (fun A2 c2 => ?_))
          | ((with_reducible refine Nx.is_at ?_); first | refine Nx.a ?_ | refine Nx.zd ?_ | refine Nx.zs (fun hc => ?_) (fun hc => ?_))
          | ((with_reducible refine Nx.is_mix ?_); first | refine Nx.m ?_ | refine Nx.zm ?_ | refine Nx.zt (fun hc => ?_) (fun hc => ?_))
          | refine Nx.zx ?_ | fail
        · obtain ⟨h1, h2⟩ := hns D' hn'
          exact Nx.again (D', numD rs D + 1, true, fd, st) ⟨h1, hG', fun _ => h2.symm, fun h => (by cases h)⟩ (by dsimp only; omega) ⟨rfl, rfl, rfl, rfl, rfl, rfl, trivial⟩ (by (exact Ent.auto))
        · have h2 := hne hn'
          exact Nx.again (zerD D 0, prodD rs, false, fd, st) ⟨hz, by rw [show prodD rs = numD rs D + 1 by omega]; exact hG', fun h => (by cases h), fun _ => rfl⟩ (by dsimp only; omega) ⟨rfl, rfl, rfl, rfl, rfl, rfl, trivial⟩ (by (exact Ent.auto))
    obtain rfl : i = l.length := by omega
    rw [List.take_length] at hsum
    have hT := hTs fun q hq => by
      obtain ⟨x, hx, rfl⟩ := List.mem_map.1 hq
      exact hsum x hx
    have hGl := hG.len
    repeat' first
      | ((with_reducible refine Nx.is_wp ?_); first | refine Nx.wo ?_ | refine Nx.zp (fun hc => ?_) (fun hc => ?_))
      | (refine Nx.zo ?_; first | refine Nx.opr rfl rfl ?_ | refine Nx.so ?_ | refine Nx.sb (fun bx => ?_) | refine Nx.sa (fun A2 c2 => ?_))
      | ((with_reducible refine Nx.is_at ?_); first | refine Nx.a ?_ | refine Nx.zd ?_ | refine Nx.zs (fun hc => ?_) (fun hc => ?_))
      | ((with_reducible refine Nx.is_mix ?_); first | refine Nx.m ?_ | refine Nx.zm ?_ | refine Nx.zt (fun hc => ?_) (fun hc => ?_))
      | refine Nx.zx ?_ | fail
    refine Nx.p_loop (σ := Nat × List SeenE) (fun s => [(0, .int .i64 (n : Int)), (1, .slice A l.length c), (5, .slice (some ⟨bs, 0, none⟩) n n), (6, .bool true), (7, .pointer (some ⟨b, 0, none⟩)), (59, .slice (some ⟨bt, 0, none⟩) n n), (60, .int .i64 (n : Int)), (61, .int .i64 (s.1 : Int))])
      (fun s => [digR b At As ct cs bt n U rs, tabR bt n T, seenA bs n s.2, Stars (s.2.map seenR), F]) (fun s => s.1 ≤ n ∧ s.2.length = n ∧ ∀ j, j < n → CellOk (s.2.getD j default) (fun z => (j < s.1 ∧ z = T.getD j 0) ∨ ∃ t, Vis n U rs (solsOf n (eqns l)) (numD rs D) t ∧ t.getD j 0 = z)) (fun s => n - s.1) (0, st) rfl ⟨Nat.zero_le _, hGl, fun j hj => (hG.cell j hj).congr fun z => ⟨fun h => h.elim (fun h => absurd h.1 (Nat.not_lt_zero _)) id, .inr⟩⟩ ⟨rfl, rfl, rfl, rfl, rfl, rfl, rfl, rfl, trivial⟩ (by (exact Ent.auto)) ?_
    rintro ⟨k, sq⟩ ⟨hk, hsl, hcell⟩
    dsimp only at hk hsl hcell ⊢
    by_cases hkn : k < n
    case neg =>
      obtain rfl : k = n := by omega
      have hG' : GoodS k sq true (Vis k U rs (solsOf k (eqns l)) (numD rs D + 1)) := ⟨hsl, fun j hj => (hcell j hj).congr fun z => ⟨fun ⟨t, h1, h2⟩ => ((hvs t).1 h1).elim (fun h => .inr ⟨t, h, h2⟩) (fun h => .inl ⟨hj, by rw [← h2, h.2]⟩), fun h => h.elim (fun h => ⟨T, (hvs T).2 (.inr ⟨hT, rfl⟩), h.2.symm⟩) fun ⟨t, h1, h2⟩ => ⟨t, (hvs t).2 (.inl h1), h2⟩⟩, ⟨fun _ => ⟨T, (hvs T).2 (.inr ⟨hT, rfl⟩)⟩, fun _ => rfl⟩⟩
      repeat' first
        | ((with_reducible refine Nx.is_wp ?_); first | refine Nx.wo ?_ | refine Nx.zp (fun hc => ?_) (fun hc => ?_))
        | (refine Nx.zo ?_; first | refine Nx.opr rfl rfl ?_ | (refine Nx.call rfl rfl rfl (by kernel_rfl) rfl hnx (by unfold digR tabR; (exact Ent.auto)) ?_; rintro _ _ (⟨D', hn', rfl, rfl⟩ | ⟨hn', rfl, rfl⟩)) | refine Nx.so ?_ | refine Nx.sb (fun bx => ?_) | refine Nx.sa (fun A2 c2 => ?_))
        | ((with_reducible refine Nx.is_at ?_); first | refine Nx.a ?_ | refine Nx.zd ?_ | refine Nx.zs (fun hc => ?_) (fun hc => ?_))
        | ((with_reducible refine Nx.is_mix ?_); first | refine Nx.m ?_ | refine Nx.zm ?_ | refine Nx.zt (fun hc => ?_) (fun hc => ?_))
        | refine Nx.zx ?_ | fail
      · obtain ⟨h1, h2⟩ := hns D' hn'
        exact Nx.again (D', numD rs D + 1, true, true, sq) ⟨h1, hG', fun _ => h2.symm, fun h => (by cases h)⟩ (by dsimp only; omega) ⟨rfl, rfl, rfl, rfl, rfl, rfl, trivial⟩ (by (exact Ent.auto))
      · have h2 := hne hn'
        exact Nx.again (zerD D 0, prodD rs, false, true, sq) ⟨hz, by rw [show prodD rs = numD rs D + 1 by omega]; exact hG', fun h => (by cases h), fun _ => rfl⟩ (by dsimp only; omega) ⟨rfl, rfl, rfl, rfl, rfl, rfl, trivial⟩ (by (exact Ent.auto))
    have hck := hcell k hkn
    have hnew : ∀ z, ((k < k + 1 ∧ z = T.getD k 0) ∨ ∃ t, Vis n U rs (solsOf n (eqns l)) (numD rs D) t ∧ t.getD k 0 = z) ↔ z = T.getD k 0 ∨ ((k < k ∧ z = T.getD k 0) ∨ ∃ t, Vis n U rs (solsOf n (eqns l)) (numD rs D) t ∧ t.getD k 0 = z) := fun z => ⟨fun h => h.elim (fun h => .inl h.2) fun h => .inr (.inr h), fun h => h.elim (fun h => .inl ⟨Nat.lt_succ_self k, h⟩) fun h => h.elim (fun h => absurd h.1 (Nat.lt_irrefl k)) .inr⟩
    have hold : ∀ (x : SeenE), CellOk x (fun z => (k < k + 1 ∧ z = T.getD k 0) ∨ ∃ t, Vis n U rs (solsOf n (eqns l)) (numD rs D) t ∧ t.getD k 0 = z) → ∀ j, j < n → CellOk ((sq.set k x).getD j default) (fun z => (j < k + 1 ∧ z = T.getD j 0) ∨ ∃ t, Vis n U rs (solsOf n (eqns l)) (numD rs D) t ∧ t.getD j 0 = z) := fun x hx j hj => by
      by_cases hjk : j = k
      · subst hjk
        rw [List.getD_eq_getElem?_getD, List.getElem?_set_self (by omega)]
        exact hx
      · rw [List.getD_eq_getElem?_getD, List.getElem?_set_ne (Ne.symm hjk), ← List.getD_eq_getElem?_getD]
        exact (hcell j hj).congr fun z => ⟨fun h => h.elim (fun h => .inl ⟨by omega, h.2⟩) .inr, fun h => h.elim (fun h => .inl ⟨by omega, h.2⟩) .inr⟩
    cases hsk : sq.getD k default with
    | none =>
      rw [hsk] at hck
      have hfr := fun bm => hold _ (hck.fresh bm hnew)
      have htr : ∀ (W : World) (R : List Res) (r0 : Res), Rd W I2 (r0 :: tabR bt n T :: R) ((ad (some ⟨bt, 0, none⟩)).add (k * 1)) (.int .i64 (T.getD k 0)) := fun W R r0 => Rd.vecAt 1 rfl (by omega) rfl
      have hsr0 : ∀ (W : World) (R : List Res) (r0 r1 : Res), Rd W I2 (r0 :: r1 :: seenA bs n sq :: R) ((ad (some ⟨bs, 0, none⟩)).add (k * 1)) (.map none) := fun W R r0 r1 => by
        have h := Rd.vecEl (W := W) (I := I2) (R := r0 :: r1 :: seenA bs n sq :: R) 2 (f := seenV) (l := sq) (i := k) rfl (by omega)
        rw [hsk] at h
        exact h
      have hsr1 : ∀ (bm : Nat) (W : World) (R : List Res), Rd W I2 (seenA bs n (sq.set k (some (bm, []))) :: R) ((ad (some ⟨bs, 0, none⟩)).add (k * 1)) (.map (some bm)) := fun bm W R => by
        have h := Rd.vecEl (W := W) (I := I2) (R := seenA bs n (sq.set k (some (bm, []))) :: R) 0 (f := seenV) (l := sq.set k (some (bm, []))) (i := k) rfl (by rw [List.length_set]; omega)
        rw [show (sq.set k (some (bm, []))).getD k default = some (bm, []) by rw [List.getD_eq_getElem?_getD, List.getElem?_set_self (by omega)]; rfl] at h
        exact h
      generalize T.getD k 0 = v at htr hfr
      repeat' first
        | ((with_reducible refine Nx.is_wp ?_); first | refine Nx.wo ?_ | refine Nx.zp (fun hc => ?_) (fun hc => ?_))
        | (refine Nx.zo ?_; first | refine Nx.opr rfl rfl ?_ | refine Nx.indexAddr_nat (A := some ⟨bt, 0, none⟩) (i := k) (sz := 1) rfl rfl rfl rfl rfl hkn rfl ?_ | refine Nx.load rfl rfl rfl (htr _ _ _) ?_ | refine Nx.indexAddr_nat (A := some ⟨bs, 0, none⟩) (i := k) (sz := 1) rfl rfl rfl rfl rfl hkn rfl ?_ | refine Nx.load rfl rfl rfl (hsr0 _ _ _ _) ?_ | refine Nx.makeMapS (Value.int .i64) (fun _ : Unit => Value.bool true) rfl (fun bm => ?_) | refine Nx.store_of 3 seenV (A := some ⟨bs, 0, none⟩) (i := k) (l := sq) (z := some (bm, [])) rfl rfl rfl rfl rfl rfl (by omega) ?_ | refine Nx.load rfl rfl rfl (hsr1 _ _ _) ?_ | refine Nx.mapSetS 1 (Value.int .i64) (fun _ : Unit => Value.bool true) (k := v) (v := ()) (.inr rfl) rfl rfl rfl (KeyEnc.int Tryz.underlying3) rfl rfl ?_ | refine Nx.so ?_ | refine Nx.sb (fun bx => ?_) | refine Nx.sa (fun A2 c2 => ?_))
        | ((with_reducible refine Nx.is_at ?_); first | refine Nx.a ?_ | refine Nx.zd ?_ | refine Nx.zs (fun hc => ?_) (fun hc => ?_))
        | ((with_reducible refine Nx.is_mix ?_); first | refine Nx.m ?_ | refine Nx.zm ?_ | refine Nx.zt (fun hc => ?_) (fun hc => ?_))
        | refine Nx.zx ?_ | fail
      refine Nx.again (k + 1, sq.set k (some (bm, mset [] v ()))) ⟨hkn, by dsimp only; rw [List.length_set]; exact hsl, hfr bm⟩ (by dsimp only; omega) ⟨rfl, rfl, rfl, rfl, rfl, rfl, rfl, rfl, trivial⟩ ?_
      dsimp only
      refine Ent.trans (R' := mapB bm (mset [] v ()) :: Stars (sq.map seenR) :: [digR b At As ct cs bt n U rs, tabR bt n T, Vec 143 1 (some ⟨bs, 0, none⟩) n n ((sq.set k (some (bm, []))).map seenV), F]) (by (exact Ent.auto)) ((seen_put (k := k) (by omega)).trans ?_)
      rw [show (sq.set k (some (bm, []))).map seenV = (sq.set k (some (bm, mset [] v ()))).map seenV by rw [List.map_set, List.map_set]; rfl]
      (exact Ent.auto)
    | some p =>
      obtain ⟨bk, ps⟩ := p
      rw [hsk] at hck
      have hfr := hold _ (hck.more hnew)
      have htr : ∀ (W : World) (R : List Res) (r0 r1 : Res), Rd W I2 (r0 :: r1 :: tabR bt n T :: R) ((ad (some ⟨bt, 0, none⟩)).add (k * 1)) (.int .i64 (T.getD k 0)) := fun W R r0 r1 => Rd.vecAt 2 rfl (by omega) rfl
      have hsr : ∀ (W : World) (R : List Res) (r0 r1 r2 : Res), Rd W I2 (r0 :: r1 :: r2 :: seenA bs n sq :: R) ((ad (some ⟨bs, 0, none⟩)).add (k * 1)) (.map (some bk)) := fun W R r0 r1 r2 => by
        have h := Rd.vecEl (W := W) (I := I2) (R := r0 :: r1 :: r2 :: seenA bs n sq :: R) 3 (f := seenV) (l := sq) (i := k) rfl (by omega)
        rw [hsk] at h
        exact h
      have hsv := fun l' => seenV_set (l' := l') (by omega : k < sq.length) hsk
      have hgt := seen_get (st := sq) (k := k) (by omega)
      rw [hsk] at hgt
      generalize T.getD k 0 = v at htr hfr
      refine Nx.ent (R' := [mapB bk ps, digR b At As ct cs bt n U rs, tabR bt n T, seenA bs n sq, Stars ((sq.map seenR).eraseIdx k), F]) (Ent.trans (R' := [Stars (sq.map seenR), digR b At As ct cs bt n U rs, tabR bt n T, seenA bs n sq, F]) (by (exact Ent.auto)) ((Ent.takeOut k hgt).trans (by unfold mapB seenR; (exact Ent.auto)))) ?_
      repeat' first
        | ((with_reducible refine Nx.is_wp ?_); first | refine Nx.wo ?_ | refine Nx.zp (fun hc => ?_) (fun hc => ?_))
        | (refine Nx.zo ?_; first | refine Nx.opr rfl rfl ?_ | refine Nx.indexAddr_nat (A := some ⟨bt, 0, none⟩) (i := k) (sz := 1) rfl rfl rfl rfl rfl hkn rfl ?_ | refine Nx.load rfl rfl rfl (htr _ _ _ _) ?_ | refine Nx.indexAddr_nat (A := some ⟨bs, 0, none⟩) (i := k) (sz := 1) rfl rfl rfl rfl rfl hkn rfl ?_ | refine Nx.load rfl rfl rfl (hsr _ _ _ _ _) ?_ | refine Nx.mapSetS 0 (Value.int .i64) (fun _ : Unit => Value.bool true) (k := v) (v := ()) (.inr rfl) rfl rfl rfl (KeyEnc.int Tryz.underlying3) rfl rfl ?_ | refine Nx.so ?_ | refine Nx.sb (fun bx => ?_) | refine Nx.sa (fun A2 c2 => ?_))
        | ((with_reducible refine Nx.is_at ?_); first | refine Nx.a ?_ | refine Nx.zd ?_ | refine Nx.zs (fun hc => ?_) (fun hc => ?_))
        | ((with_reducible refine Nx.is_mix ?_); first | refine Nx.m ?_ | refine Nx.zm ?_ | refine Nx.zt (fun hc => ?_) (fun hc => ?_))
        | refine Nx.zx ?_ | fail
      refine Nx.again (k + 1, sq.set k (some (bk, mset ps v ()))) ⟨hkn, by dsimp only; rw [List.length_set]; exact hsl, hfr⟩ (by dsimp only; omega) ⟨rfl, rfl, rfl, rfl, rfl, rfl, rfl, rfl, trivial⟩ ?_
      dsimp only
      refine Ent.trans (R' := mapB bk (mset ps v ()) :: Stars ((sq.map seenR).eraseIdx k) :: [digR b At As ct cs bt n U rs, tabR bt n T, Vec 143 1 (some ⟨bs, 0, none⟩) n n (sq.map seenV), F]) (by (exact Ent.auto)) ((seen_back (k := k) (by omega)).trans ?_)
      rw [← hsv (mset ps v ())]
      (exact Ent.auto)
end Go.Proofs.YtcmdemfhbekabaaGreat
/- Contracts of functions of the given program, and lemmas about plain lists and numbers: what the laws of this seat lean on. -/
namespace Go.Proofs.YtcmdemfhbekabaaGreat
open Go.Eng Go.Sol
attribute [local irreducible] opK wpList Code.wp Exit.then Exit.inBlock fnPost bodyPost Nx Calls Oper.wp Rd Rds Wr Ent Stars Blk Again Vec FnSpec wpMix QRun Stop Upto wpAt
/-! The program's equations: what releases tell, for right views -/
def badV (z : Int) : Bool := decide (z ≠ -1) && !decide (0 ≤ z ∧ z ≤ 1000000)
set_option maxHeartbeats 8000000 in
set_option maxRecDepth 10000 in
theorem bad_spec (z : Int) (I : PH) : FnSpec Tryz.prog 151 [.int .i64 z] I [] (fun v R' => v = .bool (badV z) ∧ R' = []) := by
  have hv := value_spec z I
  unfold badV
  refine FnSpec.enterP Tryz.func151 rfl Tryz.ntmps151 rfl fun w F => ?_
  by_cases h : z = -1
  · rw [decide_eq_false (fun h' : z ≠ -1 => h' h), Bool.false_and]
    repeat' first
      | ((with_reducible refine Nx.is_wp ?_); first | refine Nx.wo ?_ | refine Nx.zp (fun hc => ?_) (fun hc => ?_))
      | (refine Nx.zo ?_; first | refine Nx.opr rfl rfl ?_ | refine Nx.callv rfl rfl rfl (by kernel_rfl) rfl hv ?_ | refine Nx.so ?_ | refine Nx.sb (fun bx => ?_) | refine Nx.sa (fun A2 c2 => ?_))
      | ((with_reducible refine Nx.is_at ?_); first | refine Nx.a ?_ | refine Nx.zd ?_ | refine Nx.zs (fun hc => ?_) (fun hc => ?_))
      | ((with_reducible refine Nx.is_mix ?_); first | refine Nx.m ?_ | refine Nx.zm ?_ | refine Nx.zt (fun hc => ?_) (fun hc => ?_))
      | refine Nx.zx ?_ | fail
    exact Nx.ret_fn rfl [] ⟨rfl, rfl⟩ (by (exact Ent.auto))
  · rw [decide_eq_true (show z ≠ -1 from h), Bool.true_and]
    repeat' first
      | ((with_reducible refine Nx.is_wp ?_); first | refine Nx.wo ?_ | refine Nx.zp (fun hc => ?_) (fun hc => ?_))
      | (refine Nx.zo ?_; first | refine Nx.opr rfl rfl ?_ | refine Nx.callv rfl rfl rfl (by kernel_rfl) rfl hv ?_ | refine Nx.so ?_ | refine Nx.sb (fun bx => ?_) | refine Nx.sa (fun A2 c2 => ?_))
      | ((with_reducible refine Nx.is_at ?_); first | refine Nx.a ?_ | refine Nx.zd ?_ | refine Nx.zs (fun hc => ?_) (fun hc => ?_))
      | ((with_reducible refine Nx.is_mix ?_); first | refine Nx.m ?_ | refine Nx.zm ?_ | refine Nx.zt (fun hc => ?_) (fun hc => ?_))
      | refine Nx.zx ?_ | fail
    exact Nx.ret_fn rfl [] ⟨rfl, rfl⟩ (by (exact Ent.auto))
/-- The error of a release. -/
def relE (_ : List Int) (r : Rel) (before : Int) : Int :=
  if r.num ≤ before ∨ 24 ≤ r.num then 48 else if (r.val.2.2.length : Int) ≠ prod (szs r.v) then 17 else if r.val.2.2.any badV = true then 2 else 0
set_option maxRecDepth 10000 in
set_option maxHeartbeats 8000000 in
theorem echeck_spec (A : Option Addr) (c : Nat) (l : List Int) (r : Rel) (before : Int) (I : PH) (hl : Ints I A c l) (hs : Sizes l) (hv : RowsOf I r.va r.vc r.v) (hd : Ints I r.val.1 r.val.2.1 r.val.2.2) (hw : Viewed l r.v) :
    FnSpec Tryz.prog 134 [.agg #[.slice A l.length c], .agg #[.int .i64 r.num, .slice r.va r.v.length r.vc, .slice r.val.1 r.val.2.2.length r.val.2.1], .int .i64 before] I [] (fun u R' => u = .int .i64 (relE l r before) ∧ R' = []) := by
  obtain ⟨num, B, cv, v, D, cd, vs⟩ := r
  dsimp only at hv hd hw ⊢
  have hvl := hd.len
  have hP := Published_spec A B c cv l v I hl hs hv hw
  have hC := ContainsFunc_spec 151 badV D cd vs I hd (by kernel_rfl) (fun z => bad_spec z I)
  unfold relE
  dsimp only
  generalize prod (szs v) = P at hP
  refine FnSpec.enterP Tryz.func134 rfl Tryz.ntmps134 rfl fun w F => ?_
  by_cases h1 : num ≤ before
  · rw [if_pos (.inl h1)]
    repeat' first
      | ((with_reducible refine Nx.is_wp ?_); first | refine Nx.wo ?_ | refine Nx.zp (fun hc => ?_) (fun hc => ?_))
      | (refine Nx.zo ?_; first | refine Nx.opr rfl rfl ?_ | refine Nx.so ?_ | refine Nx.sb (fun bx => ?_) | refine Nx.sa (fun A2 c2 => ?_))
      | ((with_reducible refine Nx.is_at ?_); first | refine Nx.a ?_ | refine Nx.zd ?_ | refine Nx.zs (fun hc => ?_) (fun hc => ?_))
      | ((with_reducible refine Nx.is_mix ?_); first | refine Nx.m ?_ | refine Nx.zm ?_ | refine Nx.zt (fun hc => ?_) (fun hc => ?_))
      | refine Nx.zx ?_ | fail
    exact Nx.ret_fn rfl [] ⟨rfl, rfl⟩ (by (exact Ent.auto))
  by_cases h2 : 24 ≤ num
  · rw [if_pos (.inr h2)]
    repeat' first
      | ((with_reducible refine Nx.is_wp ?_); first | refine Nx.wo ?_ | refine Nx.zp (fun hc => ?_) (fun hc => ?_))
      | (refine Nx.zo ?_; first | refine Nx.opr rfl rfl ?_ | refine Nx.so ?_ | refine Nx.sb (fun bx => ?_) | refine Nx.sa (fun A2 c2 => ?_))
      | ((with_reducible refine Nx.is_at ?_); first | refine Nx.a ?_ | refine Nx.zd ?_ | refine Nx.zs (fun hc => ?_) (fun hc => ?_))
      | ((with_reducible refine Nx.is_mix ?_); first | refine Nx.m ?_ | refine Nx.zm ?_ | refine Nx.zt (fun hc => ?_) (fun hc => ?_))
      | refine Nx.zx ?_ | fail
    exact Nx.ret_fn rfl [] ⟨rfl, rfl⟩ (by (exact Ent.auto))
  rw [if_neg (by omega)]
  by_cases h3 : (vs.length : Int) ≠ P
  · rw [if_pos h3]
    repeat' first
      | ((with_reducible refine Nx.is_wp ?_); first | refine Nx.wo ?_ | refine Nx.p_draw (id := 6) rfl [0, 1, 2, 3, 4, 5, 6, 7] [6] _ rfl rfl (by kernel_rfl) (by kernel_rfl) rfl (by repeat first | exact PanicOk.fn | refine PanicOk.then_ ?_ | refine PanicOk.inB ?_) (Ent.refl _) ?_ | refine Nx.zp (fun hc => ?_) (fun hc => ?_))
      | (refine Nx.zo ?_; first | refine Nx.opr rfl rfl ?_ | refine Nx.loads rfl rfl rfl rfl (Rds.cut 0 1 rfl rfl) rfl ?_ | refine Nx.callv rfl rfl rfl (by kernel_rfl) rfl (View_spec _ _ _ _ _ _ _ hl hs hv hw) ?_ | refine Nx.callv rfl rfl rfl (by kernel_rfl) rfl hP ?_ | refine Nx.so ?_ | refine Nx.sb (fun bx => ?_) | refine Nx.sa (fun A2 c2 => ?_))
      | ((with_reducible refine Nx.is_at ?_); first | refine Nx.a ?_ | refine Nx.zd ?_ | refine Nx.zs (fun hc => ?_) (fun hc => ?_))
      | ((with_reducible refine Nx.is_mix ?_); first | refine Nx.m_quiet rfl rfl rfl rfl rfl (by first | exact QRun.opr rfl | exact QRun.loads rfl rfl rfl (Rds.cut 0 1 rfl rfl) rfl) ?_ | refine Nx.m_quiet_do rfl rfl rfl rfl rfl rfl rfl (by first | exact QRun.opr rfl | exact QRun.loads rfl rfl rfl (Rds.cut 0 1 rfl rfl) rfl) ?_ | refine Nx.m ?_ | refine Nx.zm ?_ | refine Nx.zt (fun hc => ?_) (fun hc => ?_))
      | refine Nx.zx ?_ | fail
    exact Nx.ret_fn rfl [] ⟨rfl, rfl⟩ (by (exact Ent.auto))
  rw [if_neg h3]
  have h3 : (vs.length : Int) = P := Decidable.byContradiction h3
  cases hb : vs.any badV with
  | true =>
    rw [if_pos rfl]
    rw [hb] at hC
    repeat' first
      | ((with_reducible refine Nx.is_wp ?_); first | refine Nx.wo ?_ | refine Nx.p_draw (id := 6) rfl [0, 1, 2, 3, 4, 5, 6, 7] [6] _ rfl rfl (by kernel_rfl) (by kernel_rfl) rfl (by repeat first | exact PanicOk.fn | refine PanicOk.then_ ?_ | refine PanicOk.inB ?_) (Ent.refl _) ?_ | refine Nx.zp (fun hc => ?_) (fun hc => ?_))
      | (refine Nx.zo ?_; first | refine Nx.opr rfl rfl ?_ | refine Nx.loads rfl rfl rfl rfl (Rds.cut 0 1 rfl rfl) rfl ?_ | refine Nx.callv rfl rfl rfl (by kernel_rfl) rfl (View_spec _ _ _ _ _ _ _ hl hs hv hw) ?_ | refine Nx.callv rfl rfl rfl (by kernel_rfl) rfl hP ?_ | refine Nx.callv rfl rfl rfl (by kernel_rfl) rfl hC ?_ | refine Nx.so ?_ | refine Nx.sb (fun bx => ?_) | refine Nx.sa (fun A2 c2 => ?_))
      | ((with_reducible refine Nx.is_at ?_); first | refine Nx.a ?_ | refine Nx.zd ?_ | refine Nx.zs (fun hc => ?_) (fun hc => ?_))
      | ((with_reducible refine Nx.is_mix ?_); first | refine Nx.m_quiet rfl rfl rfl rfl rfl (by first | exact QRun.opr rfl | exact QRun.loads rfl rfl rfl (Rds.cut 0 1 rfl rfl) rfl) ?_ | refine Nx.m_quiet_do rfl rfl rfl rfl rfl rfl rfl (by first | exact QRun.opr rfl | exact QRun.loads rfl rfl rfl (Rds.cut 0 1 rfl rfl) rfl) ?_ | refine Nx.m ?_ | refine Nx.zm ?_ | refine Nx.zt (fun hc => ?_) (fun hc => ?_))
      | refine Nx.zx ?_ | fail
    exact Nx.ret_fn rfl [] ⟨rfl, rfl⟩ (by (exact Ent.auto))
  | false =>
    rw [if_neg (by decide)]
    rw [hb] at hC
    repeat' first
      | ((with_reducible refine Nx.is_wp ?_); first | refine Nx.wo ?_ | refine Nx.p_draw (id := 6) rfl [0, 1, 2, 3, 4, 5, 6, 7] [6] _ rfl rfl (by kernel_rfl) (by kernel_rfl) rfl (by repeat first | exact PanicOk.fn | refine PanicOk.then_ ?_ | refine PanicOk.inB ?_) (Ent.refl _) ?_ | refine Nx.zp (fun hc => ?_) (fun hc => ?_))
      | (refine Nx.zo ?_; first | refine Nx.opr rfl rfl ?_ | refine Nx.loads rfl rfl rfl rfl (Rds.cut 0 1 rfl rfl) rfl ?_ | refine Nx.callv rfl rfl rfl (by kernel_rfl) rfl (View_spec _ _ _ _ _ _ _ hl hs hv hw) ?_ | refine Nx.callv rfl rfl rfl (by kernel_rfl) rfl hP ?_ | refine Nx.callv rfl rfl rfl (by kernel_rfl) rfl hC ?_ | refine Nx.so ?_ | refine Nx.sb (fun bx => ?_) | refine Nx.sa (fun A2 c2 => ?_))
      | ((with_reducible refine Nx.is_at ?_); first | refine Nx.a ?_ | refine Nx.zd ?_ | refine Nx.zs (fun hc => ?_) (fun hc => ?_))
      | ((with_reducible refine Nx.is_mix ?_); first | refine Nx.m_quiet rfl rfl rfl rfl rfl (by first | exact QRun.opr rfl | exact QRun.loads rfl rfl rfl (Rds.cut 0 1 rfl rfl) rfl) ?_ | refine Nx.m_quiet_do rfl rfl rfl rfl rfl rfl rfl (by first | exact QRun.opr rfl | exact QRun.loads rfl rfl rfl (Rds.cut 0 1 rfl rfl) rfl) ?_ | refine Nx.m ?_ | refine Nx.zm ?_ | refine Nx.zt (fun hc => ?_) (fun hc => ?_))
      | refine Nx.zx ?_ | fail
    exact Nx.ret_fn rfl [] ⟨rfl, rfl⟩ (by (exact Ent.auto))
def relsF (l : List Int) : Int → List Rel → Int
  | _, [] => 0
  | b, r :: rest => if relE l r b ≠ 0 then relE l r b else relsF l r.num rest
/-- The error of releases. -/
def relsE (l : List Int) (rs : List Rel) : Int := if 24 < rs.length then 1 else relsF l (-1) rs
theorem drop_atR {l : List Rel} {k : Nat} (hk : k < l.length) : l.drop k = l.getD k default :: l.drop (k + 1) := by
  rw [List.drop_eq_getElem_cons hk, List.getD_eq_getElem?_getD, List.getElem?_eq_getElem hk]; rfl
theorem relsF_at {l : List Int} {rs : List Rel} {k : Nat} {b : Int} (hk : k < rs.length) : relsF l b (rs.drop k) = if relE l (rs.getD k default) b ≠ 0 then relE l (rs.getD k default) b else relsF l (rs.getD k default).num (rs.drop (k + 1)) := by
  rw [drop_atR hk, relsF]
set_option maxRecDepth 10000 in
set_option maxHeartbeats 8000000 in
theorem ECheck_spec (A As : Option Addr) (c cs : Nat) (l : List Int) (rs : List Rel) (I : PH) (hl : Ints I A c l) (hs : Sizes l) (hr : Rels I As cs rs) (hw : ∀ r ∈ rs, Viewed l r.v) :
    FnSpec Tryz.prog 108 [.agg #[.slice A l.length c], .slice As rs.length cs] I [] (fun u R' => u = .int .i64 (relsE l rs) ∧ R' = []) := by
  have hrl := hr.outer.len
  refine FnSpec.enterP Tryz.func108 rfl Tryz.ntmps108 rfl fun w F => ?_
  unfold relsE
  by_cases h24 : 24 < rs.length
  · rw [if_pos h24]
    repeat' first
      | ((with_reducible refine Nx.is_wp ?_); first | refine Nx.wo ?_ | refine Nx.zp (fun hc => ?_) (fun hc => ?_))
      | (refine Nx.zo ?_; first | refine Nx.opr rfl rfl ?_ | refine Nx.callv rfl rfl rfl (by kernel_rfl) rfl (Check_spec _ _ _ _ hl hs) ?_ | refine Nx.so ?_ | refine Nx.sb (fun bx => ?_) | refine Nx.sa (fun A2 c2 => ?_))
      | ((with_reducible refine Nx.is_at ?_); first | refine Nx.a ?_ | refine Nx.zd ?_ | refine Nx.zs (fun hc => ?_) (fun hc => ?_))
      | ((with_reducible refine Nx.is_mix ?_); first | refine Nx.m ?_ | refine Nx.zm ?_ | refine Nx.zt (fun hc => ?_) (fun hc => ?_))
      | refine Nx.zx ?_ | fail
    exact Nx.ret_fn rfl [] ⟨rfl, rfl⟩ (by (exact Ent.auto))
  rw [if_neg h24]
  repeat' first
    | ((with_reducible refine Nx.is_wp ?_); first | refine Nx.wo ?_ | refine Nx.zp (fun hc => ?_) (fun hc => ?_))
    | (refine Nx.zo ?_; first | refine Nx.opr rfl rfl ?_ | refine Nx.callv rfl rfl rfl (by kernel_rfl) rfl (Check_spec _ _ _ _ hl hs) ?_ | refine Nx.so ?_ | refine Nx.sb (fun bx => ?_) | refine Nx.sa (fun A2 c2 => ?_))
    | ((with_reducible refine Nx.is_at ?_); first | refine Nx.a ?_ | refine Nx.zd ?_ | refine Nx.zs (fun hc => ?_) (fun hc => ?_))
    | ((with_reducible refine Nx.is_mix ?_); first | refine Nx.m ?_ | refine Nx.zm ?_ | refine Nx.zt (fun hc => ?_) (fun hc => ?_))
    | refine Nx.zx ?_ | fail
  revert bx; intro b2
  refine Nx.p_loop (σ := Nat × Int) (fun s => [(2, .pointer (some ⟨b2, 0, none⟩)), (6, .int .i64 s.2), (18, .slice As rs.length cs), (19, .int .i64 rs.length), (20, .int .i64 (s.1 : Int))])
    (fun _ => [Blk b2 27 [.slice A l.length c], F]) (fun s => s.1 ≤ rs.length ∧ relsF l (-1) rs = relsF l s.2 (rs.drop s.1)) (fun s => rs.length - s.1) (0, -1) rfl ⟨Nat.zero_le _, rfl⟩ ⟨rfl, rfl, rfl, rfl, rfl, trivial⟩ (by (exact Ent.auto)) ?_
  rintro ⟨i, b⟩ ⟨hi, he⟩
  dsimp only at hi he ⊢
  by_cases hiv : i < rs.length
  case neg =>
    rw [List.drop_eq_nil_of_le (by omega), relsF] at he
    rw [he]
    repeat' first
      | ((with_reducible refine Nx.is_wp ?_); first | refine Nx.wo ?_ | refine Nx.zp (fun hc => ?_) (fun hc => ?_))
      | (refine Nx.zo ?_; first | refine Nx.opr rfl rfl ?_ | refine Nx.so ?_ | refine Nx.sb (fun bx => ?_) | refine Nx.sa (fun A2 c2 => ?_))
      | ((with_reducible refine Nx.is_at ?_); first | refine Nx.a ?_ | refine Nx.zd ?_ | refine Nx.zs (fun hc => ?_) (fun hc => ?_))
      | ((with_reducible refine Nx.is_mix ?_); first | refine Nx.m ?_ | refine Nx.zm ?_ | refine Nx.zt (fun hc => ?_) (fun hc => ?_))
      | refine Nx.zx ?_ | fail
    exact Nx.ret_fn rfl [] ⟨rfl, rfl⟩ (by (exact Ent.auto))
  rw [relsF_at hiv] at he
  have hwi := hw _ (getD_memR hiv)
  have hS := echeck_spec A c l (rs.getD i default) b I hl hs (hr.view _ (getD_memR hiv)) (hr.val _ (getD_memR hiv)) hwi
  have hrds : ∀ (W : World) (R : List Res), Rds W I R ((ad As).add (i * 3)) (relC (rs.getD i default)) := fun W R => hr.outer.rds hiv
  generalize rs.getD i default = r at he hS hrds
  obtain ⟨num, va, vc, v, D, cd, vs⟩ := r
  dsimp only at he hS
  replace hrds : ∀ (W : World) (R : List Res), Rds W I R ((ad As).add (i * 3)) [.int .i64 num, .slice va v.length vc, .slice D vs.length cd] := hrds
  generalize relE l ⟨num, va, vc, v, (D, cd, vs)⟩ b = er at he hS
  by_cases h0 : er = 0
  · rw [if_neg (by omega)] at he
    subst h0
    repeat' first
      | ((with_reducible refine Nx.is_wp ?_); first | refine Nx.wo ?_ | refine Nx.zp (fun hc => ?_) (fun hc => ?_))
      | (refine Nx.zo ?_; first | refine Nx.opr rfl rfl ?_ | refine Nx.indexAddr_nat rfl rfl rfl rfl rfl hiv (hr.outer.isSome (by omega) (by omega)) ?_ | refine Nx.loads rfl rfl rfl rfl (hrds _ _) rfl ?_ | refine Nx.callv rfl rfl rfl (by kernel_rfl) rfl hS ?_ | refine Nx.so ?_ | refine Nx.sb (fun bx => ?_) | refine Nx.sa (fun A2 c2 => ?_))
      | ((with_reducible refine Nx.is_at ?_); first | refine Nx.a ?_ | refine Nx.zd ?_ | refine Nx.zs (fun hc => ?_) (fun hc => ?_))
      | ((with_reducible refine Nx.is_mix ?_); first | refine Nx.m ?_ | refine Nx.zm ?_ | refine Nx.zt (fun hc => ?_) (fun hc => ?_))
      | refine Nx.zx ?_ | fail
    exact Nx.again (i + 1, num) ⟨hiv, he⟩ (by dsimp only; omega) ⟨rfl, rfl, rfl, rfl, rfl, trivial⟩ (by (exact Ent.auto))
  · rw [if_pos h0] at he
    rw [he]
    repeat' first
      | ((with_reducible refine Nx.is_wp ?_); first | refine Nx.wo ?_ | refine Nx.zp (fun hc => ?_) (fun hc => ?_))
      | (refine Nx.zo ?_; first | refine Nx.opr rfl rfl ?_ | refine Nx.indexAddr_nat rfl rfl rfl rfl rfl hiv (hr.outer.isSome (by omega) (by omega)) ?_ | refine Nx.loads rfl rfl rfl rfl (hrds _ _) rfl ?_ | refine Nx.callv rfl rfl rfl (by kernel_rfl) rfl hS ?_ | refine Nx.so ?_ | refine Nx.sb (fun bx => ?_) | refine Nx.sa (fun A2 c2 => ?_))
      | ((with_reducible refine Nx.is_at ?_); first | refine Nx.a ?_ | refine Nx.zd ?_ | refine Nx.zs (fun hc => ?_) (fun hc => ?_))
      | ((with_reducible refine Nx.is_mix ?_); first | refine Nx.m ?_ | refine Nx.zm ?_ | refine Nx.zt (fun hc => ?_) (fun hc => ?_))
      | refine Nx.zx ?_ | fail
    exact Nx.ret_fn rfl [] ⟨rfl, rfl⟩ (by (exact Ent.auto))
end Go.Proofs.YtcmdemfhbekabaaGreat
/-
  The proof engine, part AQ: two bundles as one.
-/
namespace Go.Eng
theorem Ent.app {R R' : List Res} (h : Ent R R') : ∀ A : List Res, Ent (A ++ R) (A ++ R')
  | [] => h
  | _ :: A => Ent.cons (Ent.app h A)
theorem Ent.stars_app {A B R : List Res} : Ent (Stars A :: Stars B :: R) (Stars (A ++ B) :: R) := by
  refine Ent.unstars.trans ?_
  refine (Ent.app Ent.unstars A).trans ?_
  rw [← List.append_assoc]
  exact Ent.stars
end Go.Eng
/- Contracts of functions of the given program, and lemmas about plain lists and numbers: what the laws of this seat lean on. -/
namespace Go.Proofs.YtcmdemfhbekabaaGreat
open Go.Eng Go.Sol
attribute [local irreducible] opK wpList Code.wp Exit.then Exit.inBlock fnPost bodyPost Nx Calls Oper.wp Rd Rds Wr Ent Stars Blk Again Vec FnSpec wpMix QRun Stop Upto wpAt
theorem eq_one (l : List EqR) : ∀ u ∈ l.flatMap eqC, u.oneCell' = true := fun u hu => by
  obtain ⟨x, _, hx⟩ := List.mem_flatMap.1 hu
  simp only [eqC, List.mem_cons, List.not_mem_nil, or_false] at hx
  rcases hx with rfl | rfl <;> rfl
theorem relE_ok {l : List Int} {r : Rel} {b : Int} (hw : Viewed l r.v) (_ : Sizes l) (h : relE l r b = 0) : b < r.num ∧ r.num < 24 ∧ RelV l r := by
  unfold relE at h
  split at h
  · omega
  rename_i h1
  split at h
  · omega
  rename_i h2
  split at h
  · omega
  rename_i h3
  have h2 : (r.val.2.2.length : Int) = prod (szs r.v) := Decidable.byContradiction h2
  refine ⟨by omega, by omega, hw, by omega, fun j hj => ?_⟩
  have h4 : ∀ z ∈ r.val.2.2, ¬ badV z = true := fun z hz hb => h3 (List.any_eq_true.2 ⟨z, hz, hb⟩)
  have h5 := h4 _ (getD_memI hj)
  unfold badV at h5
  by_cases hz : r.val.2.2.getD j default = -1
  · exact .inl hz
  · right
    rw [decide_eq_true hz, Bool.true_and] at h5
    exact Decidable.byContradiction fun hc => h5 (by rw [decide_eq_false hc]; rfl)
theorem relE_of {l : List Int} {r : Rel} {b : Int} (hb : b < r.num) (h24 : r.num < 24) (hs : Sizes l) (h : RelV l r) : relE l r b = 0 := by
  have hp := (h.view.sizes hs).bound (k := (szs r.v).length) (Nat.le_refl _)
  rw [List.take_length] at hp
  have hl := h.len
  unfold relE
  rw [if_neg (by omega), if_neg (by omega), if_neg]
  intro ha
  obtain ⟨z, hz, hbz⟩ := List.any_eq_true.1 ha
  obtain ⟨j, hj, rfl⟩ := mem_getDI hz
  unfold badV at hbz
  rcases h.each j hj with h1 | h1
  · rw [h1] at hbz; simp at hbz
  · rw [decide_eq_true h1] at hbz; simp at hbz
theorem relsF_ok {l : List Int} (hs : Sizes l) : ∀ {rs : List Rel} {b : Int}, (∀ r ∈ rs, Viewed l r.v) → relsF l b rs = 0 → (∀ i, i < rs.length → RelV l (rs.getD i default) ∧ b < (rs.getD i default).num ∧ (rs.getD i default).num < 24) ∧ ∀ i, i + 1 < rs.length → (rs.getD i default).num < (rs.getD (i + 1) default).num
  | [], _, _, _ => ⟨fun i hi => absurd hi (Nat.not_lt_zero _), fun i hi => absurd hi (Nat.not_lt_zero _)⟩
  | r :: rs, b, hw, h => by
    rw [relsF] at h
    split at h
    · omega
    rename_i h0
    have h0 : relE l r b = 0 := Decidable.byContradiction h0
    obtain ⟨h1, h2, h3⟩ := relE_ok (hw r List.mem_cons_self) hs h0
    obtain ⟨h4, h5⟩ := relsF_ok hs (fun x hx => hw x (List.mem_cons_of_mem _ hx)) h
    refine ⟨fun i hi => ?_, fun i hi => ?_⟩
    · cases i with
      | zero => exact ⟨h3, h1, h2⟩
      | succ i =>
        obtain ⟨a, c, d⟩ := h4 i (by simpa using hi)
        exact ⟨a, by show b < (rs.getD i default).num; omega, d⟩
    · cases i with
      | zero => exact (h4 0 (by simpa using hi)).2.1
      | succ i => exact h5 i (by simpa using hi)
theorem relsF_of {l : List Int} (hs : Sizes l) : ∀ {rs : List Rel} {b : Int}, (∀ i, i < rs.length → RelV l (rs.getD i default) ∧ (rs.getD i default).num < 24) → (0 < rs.length → b < (rs.getD 0 default).num) → (∀ i, i + 1 < rs.length → (rs.getD i default).num < (rs.getD (i + 1) default).num) → relsF l b rs = 0
  | [], _, _, _, _ => rfl
  | r :: rs, b, h1, h2, h3 => by
    obtain ⟨h4, h5⟩ := h1 0 (by simp)
    rw [relsF, if_neg (by rw [show relE l r b = 0 from relE_of (h2 (by simp)) h5 hs h4]; simp)]
    exact relsF_of hs (fun i hi => h1 (i + 1) (by simpa using hi)) (fun hi => h3 0 (by simpa using hi)) fun i hi => h3 (i + 1) (by simpa using hi)
theorem relsE_iff {l : List Int} {rs : List Rel} (hs : Sizes l) (hw : ∀ r ∈ rs, Viewed l r.v) : relsE l rs = 0 ↔ RelsV l rs := by
  unfold relsE
  constructor
  · intro h
    split at h
    · omega
    obtain ⟨h1, h2⟩ := relsF_ok hs hw h
    exact ⟨by omega, fun i hi => ⟨(h1 i hi).1, by have := (h1 i hi).2.1; omega, (h1 i hi).2.2⟩, h2⟩
  · intro h
    have := h.len
    rw [if_neg (by omega)]
    exact relsF_of hs (fun i hi => ⟨(h.each i hi).1, (h.each i hi).2.2⟩) (fun hi => by have := (h.each 0 hi).2.1; omega) h.asc
set_option maxRecDepth 10000 in
set_option maxHeartbeats 8000000 in
theorem told_spec (A : Option Addr) (c : Nat) (l : List Int) (r : Rel) (I : PH) (hl : Ints I A c l) (hs : Sizes l) (hv : RowsOf I r.va r.vc r.v) (hd : Ints I r.val.1 r.val.2.1 r.val.2.2) (hV : RelV l r) :
    FnSpec Tryz.prog 110 [.agg #[.slice A l.length c], .agg #[.int .i64 r.num, .slice r.va r.v.length r.vc, .slice r.val.1 r.val.2.2.length r.val.2.1]] I []
      (fun u R' => ∃ (A' : Option Addr) (c' : Nat) (qs : List EqR), u = .slice A' qs.length c' ∧ qs.map cont = told l r ∧ qs.length ≤ 48 ∧ R' = eqsR A' c' qs) := by
  obtain ⟨num, va, vc, v, D, cd, vs⟩ := r
  obtain ⟨hw, hlen, heach⟩ := hV
  dsimp only at hv hd hw hlen heach ⊢
  have hszs := hw.sizes hs
  have hvl := hd.len
  have hpc := hszs.cells
  have hpr := hszs.bound (k := (szs v).length) (Nat.le_refl _)
  rw [List.take_length] at hpr
  refine FnSpec.enterP Tryz.func110 rfl Tryz.ntmps110 rfl fun w F => ?_
  repeat' first
    | ((with_reducible refine Nx.is_wp ?_); first | refine Nx.wo ?_ | refine Nx.zp (fun hc => ?_) (fun hc => ?_))
    | (refine Nx.zo ?_; first | refine Nx.opr rfl rfl ?_ | refine Nx.so ?_ | refine Nx.sb (fun bx => ?_) | refine Nx.sa (fun A2 c2 => ?_))
    | ((with_reducible refine Nx.is_at ?_); first | refine Nx.a ?_ | refine Nx.zd ?_ | refine Nx.zs (fun hc => ?_) (fun hc => ?_))
    | ((with_reducible refine Nx.is_mix ?_); first | refine Nx.m ?_ | refine Nx.zm ?_ | refine Nx.zt (fun hc => ?_) (fun hc => ?_))
    | refine Nx.zx ?_ | fail
  rename_i b2
  revert bx; intro b3
  refine Nx.p_loop (σ := Nat × Option Addr × Nat × List EqR) (fun s => [(2, .pointer (some ⟨b2, 0, none⟩)), (3, .pointer (some ⟨b3, 0, none⟩)), (5, .slice s.2.1 s.2.2.2.length s.2.2.1), (11, .slice D vs.length cd), (12, .int .i64 vs.length), (13, .int .i64 (s.1 : Int))])
    (fun s => Blk b3 62 [.int .i64 num, .slice va v.length vc, .slice D vs.length cd] :: Blk b2 27 [.slice A l.length c] :: (eqsR s.2.1 s.2.2.1 s.2.2.2 ++ [F])) (fun s => s.1 ≤ vs.length ∧ s.2.2.2.map cont = toldK l v vs s.1 ∧ s.2.2.2.length ≤ s.1) (fun s => vs.length - s.1) (0, none, 0, []) rfl ⟨Nat.zero_le _, rfl, Nat.le_refl _⟩ ⟨rfl, rfl, rfl, rfl, rfl, rfl, trivial⟩ ((Ent.stars_nil _).trans ((Ent.vec_nil 93 2 _).trans (by unfold eqsR; (exact Ent.auto)))) ?_
  rintro ⟨j, Ap, cp, ps⟩ ⟨hj, hps, hpl⟩
  dsimp only at hj hps hpl ⊢
  by_cases hjv : j < vs.length
  case neg =>
    obtain rfl : j = vs.length := by omega
    repeat' first
      | ((with_reducible refine Nx.is_wp ?_); first | refine Nx.wo ?_ | refine Nx.zp (fun hc => ?_) (fun hc => ?_))
      | (refine Nx.zo ?_; first | refine Nx.opr rfl rfl ?_ | refine Nx.so ?_ | refine Nx.sb (fun bx => ?_) | refine Nx.sa (fun A2 c2 => ?_))
      | ((with_reducible refine Nx.is_at ?_); first | refine Nx.a ?_ | refine Nx.zd ?_ | refine Nx.zs (fun hc => ?_) (fun hc => ?_))
      | ((with_reducible refine Nx.is_mix ?_); first | refine Nx.m ?_ | refine Nx.zm ?_ | refine Nx.zt (fun hc => ?_) (fun hc => ?_))
      | refine Nx.zx ?_ | fail
    exact Nx.ret_fn rfl [_, _] ⟨Ap, cp, ps, rfl, hps, by omega, rfl⟩ (by (exact Ent.auto))
  have hrd : ∀ (W : World) (R : List Res), Rd W I R ((ad D).add (j * 1)) (.int .i64 (vs.getD j default)) := fun W R => hd.rd hjv
  have hts : toldK l v vs (j + 1) = toldK l v vs j ++ if vs.getD j default = -1 then [] else [(memK l v (j : Int) (prod l).toNat, vs.getD j default)] := rfl
  have hM := Members_spec A va c vc l v (j : Int) I hl hs hv hw ⟨by omega, by omega⟩
  generalize memK l v (j : Int) (prod l).toNat = mm at hM hts
  generalize vs.getD j default = z at hrd hts
  by_cases hz : z = -1
  · subst hz
    rw [if_pos rfl, List.append_nil] at hts
    repeat' first
      | ((with_reducible refine Nx.is_wp ?_); first | refine Nx.wo ?_ | refine Nx.zp (fun hc => ?_) (fun hc => ?_))
      | (refine Nx.zo ?_; first | refine Nx.opr rfl rfl ?_ | refine Nx.indexAddr_nat (A := D) rfl rfl rfl rfl rfl hjv (hd.isSome (by omega)) ?_ | refine Nx.load rfl rfl rfl (hrd _ _) ?_ | refine Nx.so ?_ | refine Nx.sb (fun bx => ?_) | refine Nx.sa (fun A2 c2 => ?_))
      | ((with_reducible refine Nx.is_at ?_); first | refine Nx.a ?_ | refine Nx.zd ?_ | refine Nx.zs (fun hc => ?_) (fun hc => ?_))
      | ((with_reducible refine Nx.is_mix ?_); first | refine Nx.m ?_ | refine Nx.zm ?_ | refine Nx.zt (fun hc => ?_) (fun hc => ?_))
      | refine Nx.zx ?_ | fail
    exact Nx.again (j + 1, Ap, cp, ps) ⟨hjv, by rw [hts]; exact hps, by dsimp only; omega⟩ (by dsimp only; omega) ⟨rfl, rfl, rfl, rfl, rfl, rfl, trivial⟩ (by (exact Ent.auto))
  · rw [if_neg hz] at hts
    repeat' first
      | ((with_reducible refine Nx.is_wp ?_); first | refine Nx.wo ?_ | refine Nx.zp (fun hc => ?_) (fun hc => ?_))
      | (refine Nx.zo ?_; first | refine Nx.opr rfl rfl ?_ | refine Nx.indexAddr_nat (A := D) rfl rfl rfl rfl rfl hjv (hd.isSome (by omega)) ?_ | refine Nx.load rfl rfl rfl (hrd _ _) ?_ | refine Nx.loads rfl rfl rfl rfl (Rds.cut 0 1 rfl rfl) rfl ?_ | (refine Nx.call (Rpre := []) rfl rfl rfl (by kernel_rfl) rfl hM (Ent.refl _) ?_; rintro _ _ ⟨Am, cm, rfl, rfl⟩) | refine Nx.so ?_ | refine Nx.sb (fun bx => ?_) | refine Nx.sa (fun A2 c2 => ?_))
      | ((with_reducible refine Nx.is_at ?_); first | refine Nx.a ?_ | refine Nx.zd ?_ | refine Nx.zs (fun hc => ?_) (fun hc => ?_))
      | ((with_reducible refine Nx.is_mix ?_); first | refine Nx.m ?_ | refine Nx.zm ?_ | refine Nx.zt (fun hc => ?_) (fun hc => ?_))
      | refine Nx.zx ?_ | fail
    refine Nx.again (j + 1, A2, c2, ps ++ [((Am, cm, mm), z)]) ⟨hjv, by dsimp only; rw [hts, List.map_append, hps]; rfl, by dsimp only; rw [List.length_append]; show ps.length + 1 ≤ _; omega⟩ (by dsimp only; omega) ⟨rfl, rfl, by dsimp only; rw [List.length_append]; rfl, rfl, rfl, rfl, trivial⟩ ?_
    dsimp only
    refine Ent.trans (R' := rowR (Am, cm, mm) :: Stars (ps.map fun q => rowR q.1) :: [Vec 93 2 A2 (ps.length + 1) c2 (ps.flatMap eqC ++ eqC ((Am, cm, mm), z)), Blk b3 62 [.int .i64 num, .slice va v.length vc, .slice D vs.length cd], Blk b2 27 [.slice A l.length c], F]) (by unfold rowR eqC eqsR; (exact Ent.auto)) ?_
    refine Ent.trans (R' := Stars ((ps.map fun q => rowR q.1) ++ [rowR (Am, cm, mm)]) :: [Vec 93 2 A2 (ps.length + 1) c2 (ps.flatMap eqC ++ eqC ((Am, cm, mm), z)), Blk b3 62 [.int .i64 num, .slice va v.length vc, .slice D vs.length cd], Blk b2 27 [.slice A l.length c], F]) Ent.bundle ?_
    unfold eqsR
    rw [List.length_append, List.flatMap_append, List.map_append, List.flatMap_cons, List.flatMap_nil, List.append_nil]
    (exact Ent.auto)
set_option maxRecDepth 10000 in
set_option maxHeartbeats 8000000 in
theorem EAll_spec (A As : Option Addr) (c cs : Nat) (l : List Int) (rs : List Rel) (I : PH) (hl : Ints I A c l) (hs : Sizes l) (hr : Rels I As cs rs) (hw : ∀ r ∈ rs, Viewed l r.v) :
    FnSpec Tryz.prog 68 [.agg #[.slice A l.length c], .slice As rs.length cs] I []
      (fun u R' => ∃ (A' : Option Addr) (c' : Nat) (qs : List EqR), u = .tuple #[.slice A' qs.length c', .int .i64 (relsE l rs)] ∧ qs.map cont = (if relsE l rs = 0 then rs.flatMap (told l) else []) ∧ qs.length ≤ 24 * 48 ∧ R' = eqsR A' c' qs) := by
  have hEC := ECheck_spec A As c cs l rs I hl hs hr hw
  have hiff := relsE_iff hs hw
  refine FnSpec.enterP Tryz.func68 rfl Tryz.ntmps68 rfl fun w F => ?_
  by_cases h0 : relsE l rs = 0
  case neg =>
    rw [if_neg h0]
    generalize relsE l rs = er at h0 hEC
    repeat' first
      | ((with_reducible refine Nx.is_wp ?_); first | refine Nx.wo ?_ | refine Nx.zp (fun hc => ?_) (fun hc => ?_))
      | (refine Nx.zo ?_; first | refine Nx.opr rfl rfl ?_ | refine Nx.callv rfl rfl rfl (by kernel_rfl) rfl hEC ?_ | refine Nx.so ?_ | refine Nx.sb (fun bx => ?_) | refine Nx.sa (fun A2 c2 => ?_))
      | ((with_reducible refine Nx.is_at ?_); first | refine Nx.a ?_ | refine Nx.zd ?_ | refine Nx.zs (fun hc => ?_) (fun hc => ?_))
      | ((with_reducible refine Nx.is_mix ?_); first | refine Nx.m ?_ | refine Nx.zm ?_ | refine Nx.zt (fun hc => ?_) (fun hc => ?_))
      | refine Nx.zx ?_ | fail
    exact Nx.ret_fn rfl [_, _] ⟨none, 0, [], rfl, rfl, by decide, rfl⟩ ((Ent.stars_nil _).trans ((Ent.vec_nil 93 2 _).trans (by (exact Ent.auto))))
  have hV := hiff.1 h0
  rw [if_pos h0, h0]
  rw [h0] at hEC
  have h24 := hV.len
  repeat' first
    | ((with_reducible refine Nx.is_wp ?_); first | refine Nx.wo ?_ | refine Nx.zp (fun hc => ?_) (fun hc => ?_))
    | (refine Nx.zo ?_; first | refine Nx.opr rfl rfl ?_ | refine Nx.callv rfl rfl rfl (by kernel_rfl) rfl hEC ?_ | refine Nx.so ?_ | refine Nx.sb (fun bx => ?_) | refine Nx.sa (fun A2 c2 => ?_))
    | ((with_reducible refine Nx.is_at ?_); first | refine Nx.a ?_ | refine Nx.zd ?_ | refine Nx.zs (fun hc => ?_) (fun hc => ?_))
    | ((with_reducible refine Nx.is_mix ?_); first | refine Nx.m ?_ | refine Nx.zm ?_ | refine Nx.zt (fun hc => ?_) (fun hc => ?_))
    | refine Nx.zx ?_ | fail
  revert bx; intro b2
  refine Nx.p_loop (σ := Nat × Option Addr × Nat × List EqR) (fun s => [(2, .pointer (some ⟨b2, 0, none⟩)), (7, .slice s.2.1 s.2.2.2.length s.2.2.1), (16, .slice As rs.length cs), (17, .int .i64 rs.length), (18, .int .i64 (s.1 : Int))])
    (fun s => Blk b2 27 [.slice A l.length c] :: (eqsR s.2.1 s.2.2.1 s.2.2.2 ++ [F])) (fun s => s.1 ≤ rs.length ∧ s.2.2.2.map cont = (rs.take s.1).flatMap (told l) ∧ s.2.2.2.length ≤ s.1 * 48) (fun s => rs.length - s.1) (0, none, 0, []) rfl ⟨Nat.zero_le _, rfl, Nat.le_refl _⟩ ⟨rfl, rfl, rfl, rfl, rfl, trivial⟩ ((Ent.stars_nil _).trans ((Ent.vec_nil 93 2 _).trans (by unfold eqsR; (exact Ent.auto)))) ?_
  rintro ⟨i, Ao, co, qs⟩ ⟨hi, hqs, hql⟩
  dsimp only at hi hqs hql ⊢
  by_cases hiv : i < rs.length
  case neg =>
    obtain rfl : i = rs.length := by omega
    rw [List.take_length] at hqs
    repeat' first
      | ((with_reducible refine Nx.is_wp ?_); first | refine Nx.wo ?_ | refine Nx.zp (fun hc => ?_) (fun hc => ?_))
      | (refine Nx.zo ?_; first | refine Nx.opr rfl rfl ?_ | refine Nx.so ?_ | refine Nx.sb (fun bx => ?_) | refine Nx.sa (fun A2 c2 => ?_))
      | ((with_reducible refine Nx.is_at ?_); first | refine Nx.a ?_ | refine Nx.zd ?_ | refine Nx.zs (fun hc => ?_) (fun hc => ?_))
      | ((with_reducible refine Nx.is_mix ?_); first | refine Nx.m ?_ | refine Nx.zm ?_ | refine Nx.zt (fun hc => ?_) (fun hc => ?_))
      | refine Nx.zx ?_ | fail
    exact Nx.ret_fn rfl [_, _] ⟨Ao, co, qs, rfl, hqs, by omega, rfl⟩ (by (exact Ent.auto))
  have htk := take_snocR hiv
  have hT := told_spec A c l (rs.getD i default) I hl hs (hr.view _ (getD_memR hiv)) (hr.val _ (getD_memR hiv)) (hV.each i hiv).1
  have hrds : ∀ (W : World) (R : List Res), Rds W I R ((ad As).add (i * 3)) (relC (rs.getD i default)) := fun W R => hr.outer.rds hiv
  generalize rs.getD i default = r at htk hT hrds
  obtain ⟨num, va, vc, v, D, cd, vs⟩ := r
  dsimp only at hT
  replace hrds : ∀ (W : World) (R : List Res), Rds W I R ((ad As).add (i * 3)) [.int .i64 num, .slice va v.length vc, .slice D vs.length cd] := hrds
  repeat' first
    | ((with_reducible refine Nx.is_wp ?_); first | refine Nx.wo ?_ | refine Nx.zp (fun hc => ?_) (fun hc => ?_))
    | (refine Nx.zo ?_; first | refine Nx.opr rfl rfl ?_ | refine Nx.indexAddr_nat rfl rfl rfl rfl rfl hiv (hr.outer.isSome (by omega) (by omega)) ?_ | refine Nx.loads rfl rfl rfl rfl (hrds _ _) rfl ?_ | (refine Nx.call (Rpre := []) rfl rfl rfl (by kernel_rfl) rfl hT (Ent.refl _) ?_; rintro _ _ ⟨Am, cm, ps, rfl, hps, hpl, rfl⟩) | refine Nx.append_vec 3 rfl rfl rfl rfl (by kernel_rfl) rfl rfl (eq_one ps) (by omega) fun A2 c2 => ?_ | refine Nx.so ?_ | refine Nx.sb (fun bx => ?_) | refine Nx.sa (fun A2 c2 => ?_))
    | ((with_reducible refine Nx.is_at ?_); first | refine Nx.a ?_ | refine Nx.zd ?_ | refine Nx.zs (fun hc => ?_) (fun hc => ?_))
    | ((with_reducible refine Nx.is_mix ?_); first | refine Nx.m ?_ | refine Nx.zm ?_ | refine Nx.zt (fun hc => ?_) (fun hc => ?_))
    | refine Nx.zx ?_ | fail
  refine Nx.again (i + 1, A2, c2, qs ++ ps) ⟨hiv, by dsimp only; rw [htk, List.flatMap_append, List.flatMap_cons, List.flatMap_nil, List.append_nil, List.map_append, hqs, hps], by dsimp only; rw [List.length_append]; omega⟩ (by dsimp only; omega) ⟨rfl, by dsimp only; rw [List.length_append]; rfl, rfl, rfl, rfl, trivial⟩ ?_
  dsimp only
  refine Ent.trans (R' := Stars (qs.map fun q => rowR q.1) :: Stars (ps.map fun q => rowR q.1) :: [Vec 93 2 A2 (qs.length + ps.length) c2 (qs.flatMap eqC ++ ps.flatMap eqC), Blk b2 27 [.slice A l.length c], F]) (by (exact Ent.auto)) ?_
  refine Ent.stars_app.trans ?_
  unfold eqsR
  rw [List.length_append, List.flatMap_append, List.map_append]
  (exact Ent.auto)
end Go.Proofs.YtcmdemfhbekabaaGreat
/- Contracts of functions of the given program, and lemmas about plain lists and numbers: what the laws of this seat lean on. -/
namespace Go.Proofs.YtcmdemfhbekabaaGreat
open Go.Eng Go.Sol
attribute [local irreducible] opK wpList Code.wp Exit.then Exit.inBlock fnPost bodyPost Nx Calls Oper.wp Rd Rds Wr Ent Stars Blk Again Vec FnSpec wpMix QRun Stop Upto wpAt
theorem touch_len (N : Nat) (L : List Eqn) : (touch N L).length ≤ N := by
  have := List.length_filter_le (fun c => L.any fun q => decide (c ∈ q.1)) (List.range N)
  rw [List.length_range] at this
  exact this
end Go.Proofs.YtcmdemfhbekabaaGreat
/- Contracts of functions of the given program, and lemmas about plain lists and numbers: what the laws of this seat lean on. -/
namespace Go.Proofs.YtcmdemfhbekabaaGreat
open Go.Eng Go.Sol
attribute [local irreducible] opK wpList Code.wp Exit.then Exit.inBlock fnPost bodyPost Nx Calls Oper.wp Rd Rds Wr Ent Stars Blk Again Vec FnSpec wpMix QRun Stop Upto wpAt
/-! What releases tell, without where it lies -/
def canonE (p : List Int × Int) : EqR := ((none, 0, p.1), p.2)
def qsOf (l : List Int) (rs : List Rel) : List EqR := (rs.flatMap (told l)).map canonE
theorem cont_eqns {qs : List EqR} {L : List (List Int × Int)} (h : qs.map cont = L) : eqns qs = eqns (L.map canonE) := by
  subst h
  unfold eqns
  rw [List.map_map, List.map_map]
  rfl
theorem cont_valid {qs : List EqR} {L : List (List Int × Int)} (h : qs.map cont = L) (n : Int) : validB n qs = validB n (L.map canonE) := by
  subst h
  unfold validB
  rw [List.length_map, List.length_map, List.all_map, List.all_map]
  rfl
theorem cont_chk {qs : List EqR} {L : List (List Int × Int)} (h : qs.map cont = L) (n : Int) : chkQ n qs = chkQ n (L.map canonE) := by
  unfold chkQ
  rw [cont_valid h, cont_eqns h]
theorem cont_good {N : Nat} {qs : List EqR} {L : List (List Int × Int)} (h : qs.map cont = L) (hg : ∀ q ∈ L.map canonE, GoodE N q) : ∀ q ∈ qs, GoodE N q := fun q hq => by
  have := hg (canonE (cont q)) (List.mem_map.2 ⟨cont q, by rw [← h]; exact List.mem_map.2 ⟨q, hq, rfl⟩, rfl⟩)
  exact ⟨this.ne, this.val, this.asc, this.lt⟩
/-- What right releases tell is valid. -/
theorem told_good {l : List Int} {rs : List Rel} (hs : Sizes l) (hV : RelsV l rs) : ∀ q ∈ qsOf l rs, GoodE (prod l).toNat q := fun q hq => by
  obtain ⟨p, hp, rfl⟩ := List.mem_map.1 hq
  obtain ⟨r, hr, hp⟩ := List.mem_flatMap.1 hp
  obtain ⟨i, hi, he⟩ := List.mem_iff_getElem.1 hr
  have hri : rs.getD i default = r := by rw [List.getD_eq_getElem?_getD, List.getElem?_eq_getElem hi, he]; rfl
  have h := (hV.each i hi).1
  rw [hri] at h
  unfold told at hp
  obtain ⟨j, hj, hne, rfl⟩ := mem_toldK.1 hp
  have hP := h.len
  have hvj := h.each j hj
  exact memK_good hs h.view ⟨by omega, by omega⟩ (hvj.elim (fun h => absurd h hne) id)
theorem toldK_len {l : List Int} {v : List Row} {vs : List Int} : ∀ n, (toldK l v vs n).length ≤ n
  | 0 => Nat.le_refl _
  | n + 1 => by
    have := toldK_len (l := l) (v := v) (vs := vs) n
    rw [toldK, List.length_append]
    split <;> simp <;> omega
theorem qs_len {l : List Int} : ∀ {rs : List Rel}, (∀ r ∈ rs, r.val.2.2.length ≤ 48) → (rs.flatMap (told l)).length ≤ rs.length * 48
  | [], _ => by simp
  | r :: rs, h => by
    have ih := qs_len (l := l) (rs := rs) fun x hx => h x (List.mem_cons_of_mem _ hx)
    have h1 := toldK_len (l := l) (v := r.v) (vs := r.val.2.2) r.val.2.2.length
    have h2 := h r List.mem_cons_self
    rw [List.flatMap_cons, List.length_append, List.length_cons, Nat.succ_mul]
    unfold told at ih ⊢
    omega
theorem RelsV.lens {l : List Int} {rs : List Rel} (hs : Sizes l) (hV : RelsV l rs) : ∀ r ∈ rs, r.val.2.2.length ≤ 48 := fun r hr => by
  obtain ⟨i, hi, he⟩ := List.mem_iff_getElem.1 hr
  have hri : rs.getD i default = r := by rw [List.getD_eq_getElem?_getD, List.getElem?_eq_getElem hi, he]; rfl
  have h := (hV.each i hi).1
  rw [hri] at h
  have := (h.view.sizes hs).cells
  have := h.len
  omega
theorem RelsV.qlen {l : List Int} {rs : List Rel} (hs : Sizes l) (hV : RelsV l rs) : (qsOf l rs).length ≤ 1152 := by
  have h1 := qs_len (l := l) (hV.lens hs)
  have h2 := hV.len
  unfold qsOf
  rw [List.length_map]
  omega
theorem size_ok {l : List Int} (hs : Sizes l) : 1 ≤ (prod l).toNat ∧ (prod l).toNat ≤ 48 ∧ ((prod l).toNat : Int) = prod l := by
  have h := hs.bound (k := l.length) (Nat.le_refl _)
  rw [List.take_length] at h
  have := hs.cells
  omega
theorem allC_told {l : List Int} {rs : List Rel} {qs : List EqR} (hs : Sizes l) (hV : RelsV l rs) (h : qs.map cont = rs.flatMap (told l)) : (allC qs).length ≤ 100000 := by
  have hg := cont_good (N := (prod l).toNat) h (told_good hs hV)
  have h1 := allC_good hg
  have h2 : qs.length ≤ 1152 := by
    have := hV.qlen hs
    unfold qsOf at this
    rw [List.length_map, ← h, List.length_map] at this
    exact this
  have h3 := (size_ok hs).2.1
  have h4 := Nat.mul_le_mul h2 h3
  omega
/-- The reaches from releases. -/
def rchD (l : List Int) (rs : List Rel) : List Rch × Int := if relsE l rs = 0 then reachR (prod l) (qsOf l rs) else ([], relsE l rs)
end Go.Proofs.YtcmdemfhbekabaaGreat
/- Contracts of functions of the given program, and lemmas about plain lists and numbers: what the laws of this seat lean on. -/
namespace Go.Proofs.YtcmdemfhbekabaaGreat
open Go.Eng Go.Sol
attribute [local irreducible] opK wpList Code.wp Exit.then Exit.inBlock fnPost bodyPost Nx Calls Oper.wp Rd Rds Wr Ent Stars Blk Again Vec FnSpec wpMix QRun Stop Upto wpAt
/-! What somebody who tries all tables finds: told, certain, Certain, Values -/
def tolE (l : List Int) (rs : List Rel) : Int := if relsE l rs = 0 then chkQ (prod l) (qsOf l rs) else relsE l rs
theorem first_err (n : Int) (l : List EqR) : (firstOf n l).2.2 = chkQ n l := by
  unfold firstOf
  split
  · rename_i h; exact h.symm
  · rfl
theorem tolE_ok {l : List Int} {rs : List Rel} (h : tolE l rs = 0) : relsE l rs = 0 ∧ chkQ (prod l) (qsOf l rs) = 0 := by
  unfold tolE at h
  split at h
  · rename_i h0; exact ⟨h0, h⟩
  · rename_i h0; exact absurd h h0
def ToldPost (l : List Int) (rs : List Rel) (v : Value) (R' : List Res) : Prop :=
  ∃ (Am : Option Addr) (cm : Nat) (qs : List EqR), v = .tuple #[.slice Am qs.length cm, .int .i64 (if tolE l rs = 0 then prod l else 0), .int .i64 (tolE l rs)] ∧ (tolE l rs = 0 → qs.map cont = rs.flatMap (told l)) ∧ (tolE l rs ≠ 0 → qs = []) ∧ R' = eqsR Am cm qs
theorem nil_eqs {R : List Res} : Ent R (eqsR none 0 [] ++ R) := (Ent.stars_nil _).trans (Ent.vec_nil 93 2 _)
set_option maxRecDepth 10000 in
set_option maxHeartbeats 16000000 in
theorem atold_spec (A As : Option Addr) (c cs : Nat) (l : List Int) (rs : List Rel) (I : PH) (hl : Ints I A c l) (hs : Sizes l) (hr : Rels I As cs rs) (hw : ∀ r ∈ rs, Viewed l r.v) :
    FnSpec Tryz.prog 71 [.agg #[.slice A l.length c], .slice As rs.length cs] I [] (ToldPost l rs) := by
  have hA := EAll_spec A As c cs l rs I hl hs hr hw
  have hiff := relsE_iff hs hw
  refine FnSpec.enterP Tryz.func71 rfl Tryz.ntmps71 rfl fun w F => ?_
  unfold ToldPost tolE
  by_cases h0 : relsE l rs = 0
  case neg =>
    rw [if_neg h0, if_neg h0]
    generalize relsE l rs = er at h0 hA
    repeat' first
      | ((with_reducible refine Nx.is_wp ?_); first | refine Nx.wo ?_ | refine Nx.zp (fun hc => ?_) (fun hc => ?_))
      | (refine Nx.zo ?_; first | refine Nx.opr rfl rfl ?_ | (refine Nx.call (Rpre := []) rfl rfl rfl (by kernel_rfl) rfl hA (Ent.refl _) ?_; rintro _ _ ⟨Am, cm, qs, rfl, hqs, hql, rfl⟩) | refine Nx.so ?_ | refine Nx.sb (fun bx => ?_) | refine Nx.sa (fun A2 c2 => ?_))
      | ((with_reducible refine Nx.is_at ?_); first | refine Nx.a ?_ | refine Nx.zd ?_ | refine Nx.zs (fun hc => ?_) (fun hc => ?_))
      | ((with_reducible refine Nx.is_mix ?_); first | refine Nx.m ?_ | refine Nx.zm ?_ | refine Nx.zt (fun hc => ?_) (fun hc => ?_))
      | refine Nx.zx ?_ | fail
    exact Nx.ret_fn rfl _ ⟨none, 0, [], rfl, fun h => absurd h h0, fun _ => rfl, rfl⟩ (nil_eqs.trans (by (exact Ent.auto)))
  have hV := hiff.1 h0
  rw [if_pos h0] at hA
  rw [if_pos h0]
  rw [h0] at hA
  repeat' first
    | ((with_reducible refine Nx.is_wp ?_); first | refine Nx.p_stopr 4 rfl ?_ | refine Nx.wo ?_ | refine Nx.zp (fun hc => ?_) (fun hc => ?_))
    | (refine Nx.zo ?_; first | refine Nx.opr rfl rfl ?_ | (refine Nx.call (Rpre := []) rfl rfl rfl (by kernel_rfl) rfl hA (Ent.refl _) ?_; rintro _ _ ⟨Am, cm, qs, rfl, hqs, hql, rfl⟩) | refine Nx.so ?_ | refine Nx.sb (fun bx => ?_) | refine Nx.sa (fun A2 c2 => ?_))
    | ((with_reducible refine Nx.is_at ?_); first | refine Nx.a ?_ | refine Nx.zd ?_ | refine Nx.zs (fun hc => ?_) (fun hc => ?_))
    | ((with_reducible refine Nx.is_mix ?_); first | refine Nx.m ?_ | refine Nx.zm ?_ | refine Nx.zt (fun hc => ?_) (fun hc => ?_))
    | refine Nx.zx ?_ | fail
  refine Nx.unstop ?_
  have hF := fun (m I' : PH) (hle : PH.le I I') (hm : PH.le m I') (hv : Stars (eqsR Am cm qs) m) => (by
    obtain ⟨a0, ha0, b0⟩ := Stars.get 0 hv rfl
    obtain ⟨a1, ha1, b1⟩ := Stars.get 1 hv rfl
    exact First_spec (prod l) Am cm qs I' (eqs_of hm b0 ha0 b1 ha1) (allC_told hs hV hqs) : FnSpec Tryz.prog 116 [.int .i64 (prod l), .slice Am qs.length cm] I' [] (fun v R' => ∃ (A' : Option Addr) (c' : Nat), v = .tuple #[.slice A' (firstOf (prod l) qs).1.length c', .bool (firstOf (prod l) qs).2.1, .int .i64 (firstOf (prod l) qs).2.2] ∧ R' = [iR A' c' (firstOf (prod l) qs).1]))
  rw [first_err, cont_chk hqs] at hF
  have hqe : qsOf l rs = (rs.flatMap (told l)).map canonE := rfl
  rw [← hqe] at hF
  generalize chkQ (prod l) (qsOf l rs) = ck at hF
  by_cases hc : ck = 0
  · subst hc
    rw [if_pos rfl]
    repeat' first
      | ((with_reducible refine Nx.is_wp ?_); first | refine Nx.wo ?_ | refine Nx.zp (fun hc => ?_) (fun hc => ?_))
      | (refine Nx.zo ?_; first | refine Nx.opr rfl rfl ?_ | refine Nx.callv rfl rfl rfl (by kernel_rfl) rfl (Count_spec A c l _ hl hs) ?_ | (refine Nx.call rfl rfl rfl (by kernel_rfl) rfl (FnSpec.keep (eqsR Am cm qs) hF) (by (exact Ent.auto)) ?_; rintro _ _ ⟨_, ⟨A', c', rfl, rfl⟩, rfl⟩) | refine Nx.so ?_ | refine Nx.sb (fun bx => ?_) | refine Nx.sa (fun A2 c2 => ?_))
      | ((with_reducible refine Nx.is_at ?_); first | refine Nx.a ?_ | refine Nx.zd ?_ | refine Nx.zs (fun hc => ?_) (fun hc => ?_))
      | ((with_reducible refine Nx.is_mix ?_); first | refine Nx.m ?_ | refine Nx.zm ?_ | refine Nx.zt (fun hc => ?_) (fun hc => ?_))
      | refine Nx.zx ?_ | fail
    exact Nx.ret_fn rfl _ ⟨Am, cm, qs, rfl, fun _ => hqs, fun h => absurd rfl h, rfl⟩ (by (exact Ent.auto))
  · rw [if_neg hc]
    repeat' first
      | ((with_reducible refine Nx.is_wp ?_); first | refine Nx.wo ?_ | refine Nx.zp (fun hc => ?_) (fun hc => ?_))
      | (refine Nx.zo ?_; first | refine Nx.opr rfl rfl ?_ | refine Nx.callv rfl rfl rfl (by kernel_rfl) rfl (Count_spec A c l _ hl hs) ?_ | (refine Nx.call rfl rfl rfl (by kernel_rfl) rfl (FnSpec.keep (eqsR Am cm qs) hF) (by (exact Ent.auto)) ?_; rintro _ _ ⟨_, ⟨A', c', rfl, rfl⟩, rfl⟩) | refine Nx.so ?_ | refine Nx.sb (fun bx => ?_) | refine Nx.sa (fun A2 c2 => ?_))
      | ((with_reducible refine Nx.is_at ?_); first | refine Nx.a ?_ | refine Nx.zd ?_ | refine Nx.zs (fun hc => ?_) (fun hc => ?_))
      | ((with_reducible refine Nx.is_mix ?_); first | refine Nx.m ?_ | refine Nx.zm ?_ | refine Nx.zt (fun hc => ?_) (fun hc => ?_))
      | refine Nx.zx ?_ | fail
    exact Nx.ret_fn rfl _ ⟨none, 0, [], rfl, fun h => absurd h hc, fun _ => rfl, rfl⟩ (nil_eqs.trans (by (exact Ent.auto)))
theorem rows_vals {n : Nat} {f : Nat → List Int} {o : List Row} (h : o.map (·.2.2) = (List.range n).map f) : o.length = n ∧ ∀ k, k < n → (o.getD k default).2.2 = f k := by
  have hl : o.length = n := by have := congrArg List.length h; simpa using this
  refine ⟨hl, fun k hk => ?_⟩
  have := congrArg (·[k]?) h
  simp only [List.getElem?_map, List.getElem?_range hk, List.getElem?_eq_getElem (show k < o.length by omega), Option.map_some, Option.some.injEq] at this
  rw [List.getD_eq_getElem?_getD, List.getElem?_eq_getElem (show k < o.length by omega)]
  exact this
def certU (n : Nat) (L : List Eqn) (U : List Nat) : List Int := natI (U.filter fun k => decide ((valsOf n L k).length = 1))
def certL (n : Nat) (L : List Eqn) : List Int := certU n L (touch n L)
def certF (n : Nat) (L : List Eqn) : List Int × Int := if solsOf n L = [] then ([], 52) else (certL n L, 0)
theorem certU_snoc {n : Nat} {L : List Eqn} {U : List Nat} {k : Nat} (hk : k < U.length) : certU n L (U.take (k + 1)) = certU n L (U.take k) ++ if (valsOf n L (U.getD k 0)).length = 1 then [((U.getD k 0 : Nat) : Int)] else [] := by
  unfold certU natI
  rw [List.take_succ_eq_append_getElem hk, List.filter_append, List.map_append, List.getD_eq_getElem?_getD, List.getElem?_eq_getElem hk]
  congr 1
  show List.map Int.ofNat (List.filter _ [U[k]]) = _
  by_cases h : (valsOf n L U[k]).length = 1
  · rw [if_pos (by exact h), List.filter_cons_of_pos (by exact decide_eq_true h)]; rfl
  · rw [if_neg (by exact h), List.filter_cons_of_neg (by rw [decide_eq_true_eq]; exact h)]; rfl
theorem certU_len {n : Nat} {L : List Eqn} (U : List Nat) : (certU n L U).length ≤ U.length := by unfold certU natI; rw [List.length_map]; exact List.length_filter_le _ _
set_option maxRecDepth 10000 in
set_option maxHeartbeats 16000000 in
theorem certain_spec (A : Option Addr) (c : Nat) (l : List EqR) (n : Nat) (I : PH) (hl : Eqs I A c l) (hg : ∀ q ∈ l, GoodE n q) (hn1 : 1 ≤ n) (hn : n ≤ 4096) (h9 : (allC l).length ≤ 1000000) :
    FnSpec Tryz.prog 72 [.int .i64 (n : Int), .slice A l.length c] I [] (fun u R' => ∃ (A' : Option Addr) (c' : Nat), u = .tuple #[.slice A' (certF n (eqns l)).1.length c', .int .i64 (certF n (eqns l)).2] ∧ R' = [iR A' c' (certF n (eqns l)).1]) := by
  have hV := values_spec A c l n I hl hg hn1 hn h9
  unfold ValsPost at hV
  have hlen := hl.len
  refine FnSpec.enterP Tryz.func72 rfl Tryz.ntmps72 rfl fun w F => ?_
  unfold certF
  by_cases hS : solsOf n (eqns l) = []
  · rw [if_pos hS] at hV ⊢
    repeat' first
      | ((with_reducible refine Nx.is_wp ?_); first | refine Nx.wo ?_ | refine Nx.zp (fun hc => ?_) (fun hc => ?_))
      | (refine Nx.zo ?_; first | refine Nx.opr rfl rfl ?_ | (refine Nx.call (Rpre := []) rfl rfl rfl (by kernel_rfl) rfl hV (Ent.refl _) ?_; rintro _ _ ⟨Av, cv, o, ho, rfl, rfl⟩; obtain rfl : o = [] := List.map_eq_nil_iff.1 ho) | refine Nx.so ?_ | refine Nx.sb (fun bx => ?_) | refine Nx.sa (fun A2 c2 => ?_))
      | ((with_reducible refine Nx.is_at ?_); first | refine Nx.a ?_ | refine Nx.zd ?_ | refine Nx.zs (fun hc => ?_) (fun hc => ?_))
      | ((with_reducible refine Nx.is_mix ?_); first | refine Nx.m ?_ | refine Nx.zm ?_ | refine Nx.zt (fun hc => ?_) (fun hc => ?_))
      | refine Nx.zx ?_ | fail
    exact Nx.ret_fn rfl [_] ⟨none, 0, rfl, rfl⟩ ((Ent.vec_nil 3 1 _).trans (by (exact Ent.auto)))
  rw [if_neg hS] at hV ⊢
  repeat' first
    | ((with_reducible refine Nx.is_wp ?_); first | refine Nx.p_stopr 4 rfl ?_ | refine Nx.wo ?_ | refine Nx.zp (fun hc => ?_) (fun hc => ?_))
    | (refine Nx.zo ?_; first | refine Nx.opr rfl rfl ?_ | (refine Nx.call (Rpre := []) rfl rfl rfl (by kernel_rfl) rfl hV (Ent.refl _) ?_; rintro _ _ ⟨Av, cv, o, ho, rfl, rfl⟩; obtain ⟨hol, hov⟩ := rows_vals ho) | refine Nx.so ?_ | refine Nx.sb (fun bx => ?_) | refine Nx.sa (fun A2 c2 => ?_))
    | ((with_reducible refine Nx.is_at ?_); first | refine Nx.a ?_ | refine Nx.zd ?_ | refine Nx.zs (fun hc => ?_) (fun hc => ?_))
    | ((with_reducible refine Nx.is_mix ?_); first | refine Nx.m ?_ | refine Nx.zm ?_ | refine Nx.zt (fun hc => ?_) (fun hc => ?_))
    | refine Nx.zx ?_ | fail
  refine Nx.unstop ?_
  refine Nx.giveRows (A := Av) (c := cv) (o := o) (RR := [F]) (Ent.stars) fun I1 hI1 hro => ?_
  have hT := Touched_spec A c l n I1 (hl.mono hI1) hg h9
  have hmem := fun k (hk : k < (touch n (eqns l)).length) => (mem_touch.1 (idx_at (touch_nd n (eqns l)) hk).1).1
  have hul : (touch n (eqns l)).length ≤ n := touch_len n (eqns l)
  unfold certL
  generalize touch n (eqns l) = U at hT hmem hul
  repeat' first
    | ((with_reducible refine Nx.is_wp ?_); first | refine Nx.wo ?_ | refine Nx.zp (fun hc => ?_) (fun hc => ?_))
    | (refine Nx.zo ?_; first | refine Nx.opr rfl rfl ?_ | (refine Nx.call (Rpre := []) rfl rfl rfl (by kernel_rfl) rfl hT (Ent.refl _) ?_; rintro _ _ ⟨At, ct, rfl, rfl⟩) | refine Nx.so ?_ | refine Nx.sb (fun bx => ?_) | refine Nx.sa (fun A2 c2 => ?_))
    | ((with_reducible refine Nx.is_at ?_); first | refine Nx.a ?_ | refine Nx.zd ?_ | refine Nx.zs (fun hc => ?_) (fun hc => ?_))
    | ((with_reducible refine Nx.is_mix ?_); first | refine Nx.m ?_ | refine Nx.zm ?_ | refine Nx.zt (fun hc => ?_) (fun hc => ?_))
    | refine Nx.zx ?_ | fail
  refine Nx.p_loop (σ := Nat × Option Addr × Nat) (fun s => [(6, .slice Av o.length cv), (7, .slice s.2.1 (certU n (eqns l) (U.take s.1)).length s.2.2), (18, .slice At U.length ct), (19, .int .i64 U.length), (20, .int .i64 (s.1 : Int))])
    (fun s => [iR At ct (natI U), iR s.2.1 s.2.2 (certU n (eqns l) (U.take s.1)), F]) (fun s => s.1 ≤ U.length) (fun s => U.length - s.1) (0, none, 0) rfl (Nat.zero_le _) ⟨rfl, rfl, rfl, rfl, rfl, trivial⟩ ((Ent.vec_nil 3 1 _).trans (by (exact Ent.auto))) ?_
  rintro ⟨k, A1, c1⟩ hk
  dsimp only at hk ⊢
  by_cases hkl : k < U.length
  case neg =>
    rw [List.take_of_length_le (by omega)]
    repeat' first
      | ((with_reducible refine Nx.is_wp ?_); first | refine Nx.wo ?_ | refine Nx.zp (fun hc => ?_) (fun hc => ?_))
      | (refine Nx.zo ?_; first | refine Nx.opr rfl rfl ?_ | refine Nx.so ?_ | refine Nx.sb (fun bx => ?_) | refine Nx.sa (fun A2 c2 => ?_))
      | ((with_reducible refine Nx.is_at ?_); first | refine Nx.a ?_ | refine Nx.zd ?_ | refine Nx.zs (fun hc => ?_) (fun hc => ?_))
      | ((with_reducible refine Nx.is_mix ?_); first | refine Nx.m ?_ | refine Nx.zm ?_ | refine Nx.zt (fun hc => ?_) (fun hc => ?_))
      | refine Nx.zx ?_ | fail
    exact Nx.imm_le hI1 (Nx.ret_fn rfl [_] ⟨A1, c1, rfl, rfl⟩ (by (exact Ent.auto)))
  have hyn := hmem k hkl
  have hcr : ∀ (W : World) (R : List Res), Rd W I1 (iR At ct (natI U) :: R) ((ad At).add (k * 1)) (.int .i64 ((U.getD k 0 : Nat) : Int)) := fun W R => by
    have h := Rd.vecEl (W := W) (I := I1) (R := iR At ct (natI U) :: R) 0 (f := Value.int .i64) (l := natI U) (i := k) rfl (by rw [List.length_map]; exact hkl)
    rw [nat_at hkl] at h
    exact h
  have hsn := certU_snoc (n := n) (L := eqns l) hkl
  have hcl := certU_len (n := n) (L := eqns l) (U.take k)
  rw [List.length_take] at hcl
  generalize U.getD k 0 = y at hyn hcr hsn
  have hoy := hov y hyn
  have hrr : ∀ (W : World) (R : List Res), Rd W I1 R ((ad Av).add (y * 1)) (rowV (o.getD y default)) := fun W R => hro.outer.rd (by omega)
  generalize o.getD y default = rw' at hoy hrr
  obtain ⟨Ay, cy, row⟩ := rw'
  dsimp only at hoy
  replace hrr : ∀ (W : World) (R : List Res), Rd W I1 R ((ad Av).add (y * 1)) (.slice Ay row.length cy) := hrr
  subst hoy
  generalize valsOf n (eqns l) y = vy at hrr hsn
  generalize certU n (eqns l) (U.take k) = ac at hsn hcl ⊢
  refine Nx.vec_fact fun _ hv2 _ hAt => ?_
  rw [List.length_map] at hv2 hAt
  by_cases h1 : vy.length = 1
  · rw [if_pos h1] at hsn
    repeat' first
      | ((with_reducible refine Nx.is_wp ?_); first | refine Nx.wo ?_ | refine Nx.zp (fun hc => ?_) (fun hc => ?_))
      | (refine Nx.zo ?_; first | refine Nx.opr rfl rfl ?_ | refine Nx.indexAddr_nat (A := At) (i := k) (sz := 1) rfl rfl rfl rfl rfl hkl (hAt (by omega)) ?_ | refine Nx.load rfl rfl rfl (hcr _ _) ?_ | refine Nx.indexAddr_nat (A := Av) (i := y) (sz := 1) rfl rfl rfl rfl rfl (by omega) (hro.outer.isSome (by omega)) ?_ | refine Nx.load rfl rfl rfl (hrr _ _) ?_ | refine Nx.so ?_ | refine Nx.sb (fun bx => ?_) | refine Nx.sa (fun A2 c2 => ?_))
      | ((with_reducible refine Nx.is_at ?_); first | refine Nx.a ?_ | refine Nx.zd ?_ | refine Nx.zs (fun hc => ?_) (fun hc => ?_))
      | ((with_reducible refine Nx.is_mix ?_); first | refine Nx.m ?_ | refine Nx.zm ?_ | refine Nx.zt (fun hc => ?_) (fun hc => ?_))
      | refine Nx.zx ?_ | fail
    refine Nx.again (k + 1, A2, c2) hkl (by dsimp only; omega) ⟨rfl, by dsimp only; rw [hsn, List.length_append]; rfl, rfl, rfl, rfl, trivial⟩ ?_
    dsimp only
    rw [hsn]
    unfold iR
    rw [List.length_append (bs := [_]), List.length_singleton, List.map_append]
    (exact Ent.auto)
  · rw [if_neg h1, List.append_nil] at hsn
    repeat' first
      | ((with_reducible refine Nx.is_wp ?_); first | refine Nx.wo ?_ | refine Nx.zp (fun hc => ?_) (fun hc => ?_))
      | (refine Nx.zo ?_; first | refine Nx.opr rfl rfl ?_ | refine Nx.indexAddr_nat (A := At) (i := k) (sz := 1) rfl rfl rfl rfl rfl hkl (hAt (by omega)) ?_ | refine Nx.load rfl rfl rfl (hcr _ _) ?_ | refine Nx.indexAddr_nat (A := Av) (i := y) (sz := 1) rfl rfl rfl rfl rfl (by omega) (hro.outer.isSome (by omega)) ?_ | refine Nx.load rfl rfl rfl (hrr _ _) ?_ | refine Nx.so ?_ | refine Nx.sb (fun bx => ?_) | refine Nx.sa (fun A2 c2 => ?_))
      | ((with_reducible refine Nx.is_at ?_); first | refine Nx.a ?_ | refine Nx.zd ?_ | refine Nx.zs (fun hc => ?_) (fun hc => ?_))
      | ((with_reducible refine Nx.is_mix ?_); first | refine Nx.m ?_ | refine Nx.zm ?_ | refine Nx.zt (fun hc => ?_) (fun hc => ?_))
      | refine Nx.zx ?_ | fail
    exact Nx.again (k + 1, A1, c1) hkl (by dsimp only; omega) ⟨rfl, by dsimp only; rw [hsn]; rfl, rfl, rfl, rfl, trivial⟩ (by dsimp only; rw [hsn]; (exact Ent.auto))
end Go.Proofs.YtcmdemfhbekabaaGreat
/- Contracts of functions of the given program, and lemmas about plain lists and numbers: what the laws of this seat lean on. -/
namespace Go.Proofs.YtcmdemfhbekabaaGreat
open Go.Eng Go.Sol
attribute [local irreducible] opK wpList Code.wp Exit.then Exit.inBlock fnPost bodyPost Nx Calls Oper.wp Rd Rds Wr Ent Stars Blk Again Vec FnSpec wpMix QRun Stop Upto wpAt
/-! Certain, Values -/
def cerD (l : List Int) (rs : List Rel) : List Int × Int := if tolE l rs = 0 then certF (prod l).toNat (eqns (qsOf l rs)) else ([], tolE l rs)
def valF (n : Nat) (L : List Eqn) (k : Int) : List Int × Int := if k < 0 ∨ (n : Int) ≤ k then ([], 2) else if solsOf n L = [] then ([], 52) else if k.toNat ∈ touch n L then (valsOf n L k.toNat, 0) else ([], 21)
def valD (l : List Int) (rs : List Rel) (k : Int) : List Int × Int := if tolE l rs = 0 then valF (prod l).toNat (eqns (qsOf l rs)) k else ([], tolE l rs)
theorem Nx.giveE {C : Cx} {e : Env} {I : PH} {R : List Res} {K : Act → World → Prop} {A : Option Addr} {c : Nat} {qs : List EqR} {RR : List Res}
    (hR : Ent R (eqsR A c qs ++ RR)) (h : ∀ I', PH.le I I' → Eqs I' A c qs → Nx C e I' RR K) : Nx C e I R K := by
  refine Nx.ent (hR.trans Ent.stars) ?_
  refine Nx.freezeAt 0 rfl fun I1 m1 hI1 hm1 h1 => ?_
  obtain ⟨a0, ha0, b0⟩ := Stars.get 0 h1 rfl
  obtain ⟨a1, ha1, b1⟩ := Stars.get 1 h1 rfl
  exact h I1 hI1 (eqs_of hm1 b0 ha0 b1 ha1)
/-- What is known of equations that releases tell. -/
structure ToldQ (l : List Int) (rs : List Rel) (qs : List EqR) : Prop where
  good : ∀ q ∈ qs, GoodE (prod l).toNat q
  all : (allC qs).length ≤ 100000
  eq : eqns qs = eqns (qsOf l rs)
theorem told_q {l : List Int} {rs : List Rel} {qs : List EqR} (hs : Sizes l) (hw : ∀ r ∈ rs, Viewed l r.v) (h0 : tolE l rs = 0) (h : qs.map cont = rs.flatMap (told l)) : ToldQ l rs qs := by
  have hV := (relsE_iff hs hw).1 (tolE_ok h0).1
  exact ⟨cont_good h (told_good hs hV), allC_told hs hV h, cont_eqns h⟩
set_option maxRecDepth 10000 in
set_option maxHeartbeats 8000000 in
theorem Certain_spec (A As : Option Addr) (c cs : Nat) (l : List Int) (rs : List Rel) (I : PH) (hl : Ints I A c l) (hs : Sizes l) (hr : Rels I As cs rs) (hw : ∀ r ∈ rs, Viewed l r.v) :
    FnSpec Tryz.prog 23 [.agg #[.slice A l.length c], .slice As rs.length cs] I [] (fun u R' => ∃ (A' : Option Addr) (c' : Nat), u = .tuple #[.slice A' (cerD l rs).1.length c', .int .i64 (cerD l rs).2] ∧ R' = [iR A' c' (cerD l rs).1]) := by
  have hT := atold_spec A As c cs l rs I hl hs hr hw
  unfold ToldPost at hT
  have hz := size_ok hs
  have hq := fun qs (h0 : tolE l rs = 0) => told_q (qs := qs) hs hw h0
  refine FnSpec.enterP Tryz.func23 rfl Tryz.ntmps23 rfl fun w F => ?_
  unfold cerD
  by_cases h0 : tolE l rs = 0
  · rw [if_pos h0]
    rw [h0] at hT
    rw [if_pos rfl] at hT
    repeat' first
      | ((with_reducible refine Nx.is_wp ?_); first | refine Nx.p_stopr 4 rfl ?_ | refine Nx.wo ?_ | refine Nx.zp (fun hc => ?_) (fun hc => ?_))
      | (refine Nx.zo ?_; first | refine Nx.opr rfl rfl ?_ | (refine Nx.call (Rpre := []) rfl rfl rfl (by kernel_rfl) rfl hT (Ent.refl _) ?_; rintro _ _ ⟨Am, cm, qs, rfl, hqs, -, rfl⟩) | refine Nx.so ?_ | refine Nx.sb (fun bx => ?_) | refine Nx.sa (fun A2 c2 => ?_))
      | ((with_reducible refine Nx.is_at ?_); first | refine Nx.a ?_ | refine Nx.zd ?_ | refine Nx.zs (fun hc => ?_) (fun hc => ?_))
      | ((with_reducible refine Nx.is_mix ?_); first | refine Nx.m ?_ | refine Nx.zm ?_ | refine Nx.zt (fun hc => ?_) (fun hc => ?_))
      | refine Nx.zx ?_ | fail
    refine Nx.unstop ?_
    obtain ⟨hg, ha, he⟩ := hq qs h0 (hqs rfl)
    refine Nx.giveE (A := Am) (c := cm) (qs := qs) (RR := [F]) (by (exact Ent.auto)) fun I1 hI1 hE => ?_
    have hC := certain_spec Am cm qs (prod l).toNat I1 hE hg hz.1 (by omega) (by omega)
    rw [he, hz.2.2] at hC
    repeat' first
      | ((with_reducible refine Nx.is_wp ?_); first | refine Nx.wo ?_ | refine Nx.zp (fun hc => ?_) (fun hc => ?_))
      | (refine Nx.zo ?_; first | refine Nx.opr rfl rfl ?_ | (refine Nx.call (Rpre := []) rfl rfl rfl (by kernel_rfl) rfl hC (Ent.refl _) ?_; rintro _ _ ⟨A', c', rfl, rfl⟩) | refine Nx.so ?_ | refine Nx.sb (fun bx => ?_) | refine Nx.sa (fun A2 c2 => ?_))
      | ((with_reducible refine Nx.is_at ?_); first | refine Nx.a ?_ | refine Nx.zd ?_ | refine Nx.zs (fun hc => ?_) (fun hc => ?_))
      | ((with_reducible refine Nx.is_mix ?_); first | refine Nx.m ?_ | refine Nx.zm ?_ | refine Nx.zt (fun hc => ?_) (fun hc => ?_))
      | refine Nx.zx ?_ | fail
    exact Nx.imm_le hI1 (Nx.ret_fn rfl [_] ⟨A', c', rfl, rfl⟩ (by (exact Ent.auto)))
  · rw [if_neg h0]
    rw [if_neg h0] at hT
    generalize tolE l rs = er at h0 hT
    repeat' first
      | ((with_reducible refine Nx.is_wp ?_); first | refine Nx.wo ?_ | refine Nx.zp (fun hc => ?_) (fun hc => ?_))
      | (refine Nx.zo ?_; first | refine Nx.opr rfl rfl ?_ | (refine Nx.call (Rpre := []) rfl rfl rfl (by kernel_rfl) rfl hT (Ent.refl _) ?_; rintro _ _ ⟨Am, cm, qs, rfl, -, hqs, rfl⟩) | refine Nx.so ?_ | refine Nx.sb (fun bx => ?_) | refine Nx.sa (fun A2 c2 => ?_))
      | ((with_reducible refine Nx.is_at ?_); first | refine Nx.a ?_ | refine Nx.zd ?_ | refine Nx.zs (fun hc => ?_) (fun hc => ?_))
      | ((with_reducible refine Nx.is_mix ?_); first | refine Nx.m ?_ | refine Nx.zm ?_ | refine Nx.zt (fun hc => ?_) (fun hc => ?_))
      | refine Nx.zx ?_ | fail
    exact Nx.ret_fn rfl [_] ⟨none, 0, rfl, rfl⟩ ((Ent.vec_nil 3 1 _).trans (by (exact Ent.auto)))
set_option maxRecDepth 10000 in
set_option maxHeartbeats 16000000 in
theorem Values_spec (A As : Option Addr) (c cs : Nat) (l : List Int) (rs : List Rel) (k : Int) (I : PH) (hl : Ints I A c l) (hs : Sizes l) (hr : Rels I As cs rs) (hw : ∀ r ∈ rs, Viewed l r.v) :
    FnSpec Tryz.prog 25 [.agg #[.slice A l.length c], .slice As rs.length cs, .int .i64 k] I [] (fun u R' => ∃ (A' : Option Addr) (c' : Nat), u = .tuple #[.slice A' (valD l rs k).1.length c', .int .i64 (valD l rs k).2] ∧ R' = [iR A' c' (valD l rs k).1]) := by
  have hT := atold_spec A As c cs l rs I hl hs hr hw
  unfold ToldPost at hT
  have hz := size_ok hs
  have hq := fun qs (h0 : tolE l rs = 0) => told_q (qs := qs) hs hw h0
  refine FnSpec.enterP Tryz.func25 rfl Tryz.ntmps25 rfl fun w F => ?_
  unfold valD
  by_cases h0 : tolE l rs = 0
  case neg =>
    rw [if_neg h0]
    rw [if_neg h0] at hT
    generalize tolE l rs = er at h0 hT
    repeat' first
      | ((with_reducible refine Nx.is_wp ?_); first | refine Nx.wo ?_ | refine Nx.zp (fun hc => ?_) (fun hc => ?_))
      | (refine Nx.zo ?_; first | refine Nx.opr rfl rfl ?_ | (refine Nx.call (Rpre := []) rfl rfl rfl (by kernel_rfl) rfl hT (Ent.refl _) ?_; rintro _ _ ⟨Am, cm, qs, rfl, -, hqs, rfl⟩) | refine Nx.so ?_ | refine Nx.sb (fun bx => ?_) | refine Nx.sa (fun A2 c2 => ?_))
      | ((with_reducible refine Nx.is_at ?_); first | refine Nx.a ?_ | refine Nx.zd ?_ | refine Nx.zs (fun hc => ?_) (fun hc => ?_))
      | ((with_reducible refine Nx.is_mix ?_); first | refine Nx.m ?_ | refine Nx.zm ?_ | refine Nx.zt (fun hc => ?_) (fun hc => ?_))
      | refine Nx.zx ?_ | fail
    exact Nx.ret_fn rfl [_] ⟨none, 0, rfl, rfl⟩ ((Ent.vec_nil 3 1 _).trans (by (exact Ent.auto)))
  rw [if_pos h0]
  rw [h0] at hT
  rw [if_pos rfl] at hT
  repeat' first
    | ((with_reducible refine Nx.is_wp ?_); first | refine Nx.p_stopr 4 rfl ?_ | refine Nx.wo ?_ | refine Nx.zp (fun hc => ?_) (fun hc => ?_))
    | (refine Nx.zo ?_; first | refine Nx.opr rfl rfl ?_ | (refine Nx.call (Rpre := []) rfl rfl rfl (by kernel_rfl) rfl hT (Ent.refl _) ?_; rintro _ _ ⟨Am, cm, qs, rfl, hqs, -, rfl⟩) | refine Nx.so ?_ | refine Nx.sb (fun bx => ?_) | refine Nx.sa (fun A2 c2 => ?_))
    | ((with_reducible refine Nx.is_at ?_); first | refine Nx.a ?_ | refine Nx.zd ?_ | refine Nx.zs (fun hc => ?_) (fun hc => ?_))
    | ((with_reducible refine Nx.is_mix ?_); first | refine Nx.m ?_ | refine Nx.zm ?_ | refine Nx.zt (fun hc => ?_) (fun hc => ?_))
    | refine Nx.zx ?_ | fail
  refine Nx.unstop ?_
  obtain ⟨hg, ha, he⟩ := hq qs h0 (hqs rfl)
  refine Nx.ent (R' := eqsR Am cm qs ++ [F]) (by (exact Ent.auto)) ?_
  refine Nx.giveE (A := Am) (c := cm) (qs := qs) (RR := [F]) (Ent.refl _) fun I1 hI1 hE => ?_
  have hVs := values_spec Am cm qs (prod l).toNat I1 hE hg hz.1 (by omega) (by omega)
  have hTo := Touched_spec Am cm qs (prod l).toNat I1 hE hg (by omega)
  unfold ValsPost at hVs
  rw [he] at hVs hTo
  have hnN := hz.2.2
  have hz1 := hz.1
  have hz2 := hz.2.1
  clear hz hq hT hqs hg ha
  generalize (prod l).toNat = n at hVs hTo hz1 hz2 hnN ⊢
  rw [← hnN]
  generalize eqns (qsOf l rs) = L at hVs hTo ⊢
  unfold valF
  by_cases hk0 : k < 0
  · rw [if_pos (.inl hk0)]
    repeat' first
      | ((with_reducible refine Nx.is_wp ?_); first | refine Nx.wo ?_ | refine Nx.zp (fun hc => ?_) (fun hc => ?_))
      | (refine Nx.zo ?_; first | refine Nx.opr rfl rfl ?_ | refine Nx.so ?_ | refine Nx.sb (fun bx => ?_) | refine Nx.sa (fun A2 c2 => ?_))
      | ((with_reducible refine Nx.is_at ?_); first | refine Nx.a ?_ | refine Nx.zd ?_ | refine Nx.zs (fun hc => ?_) (fun hc => ?_))
      | ((with_reducible refine Nx.is_mix ?_); first | refine Nx.m ?_ | refine Nx.zm ?_ | refine Nx.zt (fun hc => ?_) (fun hc => ?_))
      | refine Nx.zx ?_ | fail
    exact Nx.imm_le hI1 (Nx.ret_fn rfl [_] ⟨none, 0, rfl, rfl⟩ ((Ent.vec_nil 3 1 _).trans (by (exact Ent.auto))))
  by_cases hkn : (n : Int) ≤ k
  · rw [if_pos (.inr hkn)]
    repeat' first
      | ((with_reducible refine Nx.is_wp ?_); first | refine Nx.wo ?_ | refine Nx.zp (fun hc => ?_) (fun hc => ?_))
      | (refine Nx.zo ?_; first | refine Nx.opr rfl rfl ?_ | refine Nx.so ?_ | refine Nx.sb (fun bx => ?_) | refine Nx.sa (fun A2 c2 => ?_))
      | ((with_reducible refine Nx.is_at ?_); first | refine Nx.a ?_ | refine Nx.zd ?_ | refine Nx.zs (fun hc => ?_) (fun hc => ?_))
      | ((with_reducible refine Nx.is_mix ?_); first | refine Nx.m ?_ | refine Nx.zm ?_ | refine Nx.zt (fun hc => ?_) (fun hc => ?_))
      | refine Nx.zx ?_ | fail
    exact Nx.imm_le hI1 (Nx.ret_fn rfl [_] ⟨none, 0, rfl, rfl⟩ ((Ent.vec_nil 3 1 _).trans (by (exact Ent.auto))))
  rw [if_neg (by omega)]
  obtain ⟨y, rfl⟩ : ∃ y : Nat, k = y := ⟨k.toNat, by omega⟩
  rw [Int.toNat_natCast]
  have hyn : y < n := by omega
  by_cases hS : solsOf n L = []
  · rw [if_pos hS] at hVs ⊢
    repeat' first
      | ((with_reducible refine Nx.is_wp ?_); first | refine Nx.wo ?_ | refine Nx.zp (fun hc => ?_) (fun hc => ?_))
      | (refine Nx.zo ?_; first | refine Nx.opr rfl rfl ?_ | (refine Nx.call (Rpre := []) rfl rfl rfl (by kernel_rfl) rfl hVs (Ent.refl _) ?_; rintro _ _ ⟨Av, cv, o, ho, rfl, rfl⟩; obtain rfl : o = [] := List.map_eq_nil_iff.1 ho) | refine Nx.so ?_ | refine Nx.sb (fun bx => ?_) | refine Nx.sa (fun A2 c2 => ?_))
      | ((with_reducible refine Nx.is_at ?_); first | refine Nx.a ?_ | refine Nx.zd ?_ | refine Nx.zs (fun hc => ?_) (fun hc => ?_))
      | ((with_reducible refine Nx.is_mix ?_); first | refine Nx.m ?_ | refine Nx.zm ?_ | refine Nx.zt (fun hc => ?_) (fun hc => ?_))
      | refine Nx.zx ?_ | fail
    exact Nx.imm_le hI1 (Nx.ret_fn rfl [_] ⟨none, 0, rfl, rfl⟩ ((Ent.vec_nil 3 1 _).trans (by (exact Ent.auto))))
  rw [if_neg hS] at hVs ⊢
  have hCn := fun (At : Option Addr) (ct : Nat) (m I' : PH) (_ : PH.le I1 I') (hm : PH.le m I') (hv : Stars [iR At ct ((touch n L).map Int.ofNat)] m) => (by
    obtain ⟨a0, ha0, b0⟩ := Stars.get 0 hv rfl
    have := ContainsI_spec At ct ((touch n L).map Int.ofNat) (y : Int) I' (Vec.sliceOf (ha0.trans hm) b0)
    rw [List.length_map, show decide ((y : Int) ∈ (touch n L).map Int.ofNat) = decide (y ∈ touch n L) from decide_eq_decide.2 ⟨fun h => by
      obtain ⟨x, hx, he⟩ := List.mem_map.1 h
      have he : (x : Int) = y := he
      rw [show y = x by omega]; exact hx, fun h => List.mem_map.2 ⟨y, h, rfl⟩⟩] at this
    exact this : FnSpec Tryz.prog 74 [.slice At (touch n L).length ct, .int .i64 (y : Int)] I' [] (fun v R' => v = .bool (decide (y ∈ touch n L)) ∧ R' = []))
  by_cases hy : y ∈ touch n L
  · rw [if_pos hy]
    rw [decide_eq_true hy] at hCn
    repeat' first
      | ((with_reducible refine Nx.is_wp ?_); first | refine Nx.p_stopr 11 rfl ?_ | refine Nx.wo ?_ | refine Nx.zp (fun hc => ?_) (fun hc => ?_))
      | (refine Nx.zo ?_; first | refine Nx.opr rfl rfl ?_ | (refine Nx.call (Rpre := []) rfl rfl rfl (by kernel_rfl) rfl hVs (Ent.refl _) ?_; rintro _ _ ⟨Av, cv, o, ho, rfl, rfl⟩; obtain ⟨hol, hov⟩ := rows_vals ho) | (refine Nx.call (Rpre := []) rfl rfl rfl (by kernel_rfl) rfl hTo (Ent.refl _) ?_; rintro _ _ ⟨At, ct, rfl, rfl⟩) | (refine Nx.call rfl rfl rfl (by kernel_rfl) rfl (FnSpec.keep [iR _ _ ((touch n L).map Int.ofNat)] (hCn _ _)) (by (exact Ent.auto)) ?_; rintro _ _ ⟨_, ⟨rfl, rfl⟩, rfl⟩) | refine Nx.so ?_ | refine Nx.sb (fun bx => ?_) | refine Nx.sa (fun A2 c2 => ?_))
      | ((with_reducible refine Nx.is_at ?_); first | refine Nx.a ?_ | refine Nx.zd ?_ | refine Nx.zs (fun hc => ?_) (fun hc => ?_))
      | ((with_reducible refine Nx.is_mix ?_); first | refine Nx.m ?_ | refine Nx.zm ?_ | refine Nx.zt (fun hc => ?_) (fun hc => ?_))
      | refine Nx.zx ?_ | fail
    refine Nx.unstop ?_
    have hoy := hov y hyn
    have hgt := row_getw (o := o) (k := y) (by omega)
    refine Nx.ent (R' := [Stars (o.map rwR), Vec 25 1 Av o.length cv (o.map rowV), F]) (by (exact Ent.auto)) ?_
    refine Nx.ent (Ent.takeOut y hgt) ?_
    refine Nx.ent (R' := [Vec 25 1 Av o.length cv (o.map rowV), rwR (o.getD y default), F]) (by (exact Ent.auto)) ?_
    refine Nx.vec_fact fun _ _ _ hAv => ?_
    have hrr : ∀ (W : World) (R : List Res), Rd W I1 (Vec 25 1 Av o.length cv (o.map rowV) :: R) ((ad Av).add (y * 1)) (rowV (o.getD y default)) := fun W R => Rd.vecEl 0 (f := rowV) (l := o) (i := y) rfl (by omega)
    generalize o.getD y default = rw' at hoy hrr
    obtain ⟨Ay, cy, row⟩ := rw'
    dsimp only at hoy
    replace hrr : ∀ (W : World) (R : List Res), Rd W I1 (Vec 25 1 Av o.length cv (o.map rowV) :: R) ((ad Av).add (y * 1)) (.slice Ay row.length cy) := hrr
    subst hoy
    repeat' first
      | ((with_reducible refine Nx.is_wp ?_); first | refine Nx.wo ?_ | refine Nx.zp (fun hc => ?_) (fun hc => ?_))
      | (refine Nx.zo ?_; first | refine Nx.opr rfl rfl ?_ | refine Nx.indexAddr_nat (A := Av) (i := y) (sz := 1) rfl rfl rfl rfl rfl (by omega) (hAv (by omega)) ?_ | refine Nx.load rfl rfl rfl (hrr _ _) ?_ | refine Nx.so ?_ | refine Nx.sb (fun bx => ?_) | refine Nx.sa (fun A2 c2 => ?_))
      | ((with_reducible refine Nx.is_at ?_); first | refine Nx.a ?_ | refine Nx.zd ?_ | refine Nx.zs (fun hc => ?_) (fun hc => ?_))
      | ((with_reducible refine Nx.is_mix ?_); first | refine Nx.m ?_ | refine Nx.zm ?_ | refine Nx.zt (fun hc => ?_) (fun hc => ?_))
      | refine Nx.zx ?_ | fail
    exact Nx.imm_le hI1 (Nx.ret_fn rfl [_] ⟨Ay, cy, rfl, rfl⟩ (by unfold rwR; (exact Ent.auto)))
  · rw [if_neg hy]
    rw [decide_eq_false hy] at hCn
    repeat' first
      | ((with_reducible refine Nx.is_wp ?_); first | refine Nx.wo ?_ | refine Nx.zp (fun hc => ?_) (fun hc => ?_))
      | (refine Nx.zo ?_; first | refine Nx.opr rfl rfl ?_ | (refine Nx.call (Rpre := []) rfl rfl rfl (by kernel_rfl) rfl hVs (Ent.refl _) ?_; rintro _ _ ⟨Av, cv, o, ho, rfl, rfl⟩; obtain ⟨hol, hov⟩ := rows_vals ho) | (refine Nx.call (Rpre := []) rfl rfl rfl (by kernel_rfl) rfl hTo (Ent.refl _) ?_; rintro _ _ ⟨At, ct, rfl, rfl⟩) | (refine Nx.call rfl rfl rfl (by kernel_rfl) rfl (FnSpec.keep [iR _ _ ((touch n L).map Int.ofNat)] (hCn _ _)) (by (exact Ent.auto)) ?_; rintro _ _ ⟨_, ⟨rfl, rfl⟩, rfl⟩) | refine Nx.so ?_ | refine Nx.sb (fun bx => ?_) | refine Nx.sa (fun A2 c2 => ?_))
      | ((with_reducible refine Nx.is_at ?_); first | refine Nx.a ?_ | refine Nx.zd ?_ | refine Nx.zs (fun hc => ?_) (fun hc => ?_))
      | ((with_reducible refine Nx.is_mix ?_); first | refine Nx.m ?_ | refine Nx.zm ?_ | refine Nx.zt (fun hc => ?_) (fun hc => ?_))
      | refine Nx.zx ?_ | fail
    exact Nx.imm_le hI1 (Nx.ret_fn rfl [_] ⟨none, 0, rfl, rfl⟩ ((Ent.vec_nil 3 1 _).trans (by (exact Ent.auto))))
end Go.Proofs.YtcmdemfhbekabaaGreat
/- Contracts of functions of the given program, and lemmas about plain lists and numbers: what the laws of this seat lean on. -/
namespace Go.Proofs.YtcmdemfhbekabaaGreat
open Go.Eng Go.Sol
attribute [local irreducible] opK wpList Code.wp Exit.then Exit.inBlock fnPost bodyPost Nx Calls Oper.wp Rd Rds Wr Ent Stars Blk Again Vec FnSpec wpMix QRun Stop Upto wpAt
/-! Differencing: checks, narrow reaches -/
def narrowB (x : Rch) (m : Int) : Bool := !x.2.2 && decide (x.2.1 - x.1 < m)
end Go.Proofs.YtcmdemfhbekabaaGreat
/- Contracts of functions of the given program, and lemmas about plain lists and numbers: what the laws of this seat lean on. -/
namespace Go.Proofs.YtcmdemfhbekabaaGreat
open Go.Eng Go.Sol
attribute [local irreducible] opK wpList Code.wp Exit.then Exit.inBlock fnPost bodyPost Nx Calls Oper.wp Rd Rds Wr Ent Stars Blk Again Vec FnSpec wpMix QRun Stop Upto wpAt
/-! Exposed cells -/
abbrev Exp := Int × Rch × Int
end Go.Proofs.YtcmdemfhbekabaaGreat
/- Contracts of functions of the given program, and lemmas about plain lists and numbers: what the laws of this seat lean on. -/
namespace Go.Proofs.YtcmdemfhbekabaaGreat
open Go.Eng Go.Sol
attribute [local irreducible] opK wpList Code.wp Exit.then Exit.inBlock fnPost bodyPost Nx Calls Oper.wp Rd Rds Wr Ent Stars Blk Again Vec FnSpec wpMix QRun Stop Upto wpAt
/-! The first release of each exposed cell -/
def hitB (l : List Int) (rs : List Rel) (m cell : Int) (i : Nat) : Bool := decide ((rchD l (rs.take (i + 1))).2 = 0) && narrowB ((rchD l (rs.take (i + 1))).1.getD cell.toNat default) m
def firstN (l : List Int) (rs : List Rel) (m cell : Int) : Nat → Int
  | 0 => -1
  | i + 1 => if firstN l rs m cell i < 0 ∧ hitB l rs m cell i = true then (rs.getD i default).num else firstN l rs m cell i
/-- The exposed cells after i releases. -/
def expK (l : List Int) (rs : List Rel) (m : Int) (i : Nat) (e : Exp) : Exp := (e.1, e.2.1, firstN l rs m e.1 i)
theorem map_atX {f : Exp → Exp} {l : List Exp} {k : Nat} (h : k < l.length) : (l.map f).getD k default = f (l.getD k default) := by
  rw [List.getD_eq_getElem?_getD, List.getElem?_map, List.getD_eq_getElem?_getD, List.getElem?_eq_getElem h]; rfl
theorem RelsV.take {l : List Int} {rs : List Rel} (h : RelsV l rs) (k : Nat) : RelsV l (rs.take k) := by
  have hat : ∀ i, i < (rs.take k).length → (rs.take k).getD i default = rs.getD i default ∧ i < rs.length := fun i hi => by
    rw [List.length_take] at hi
    exact ⟨by rw [List.getD_eq_getElem?_getD, List.getD_eq_getElem?_getD, List.getElem?_take_of_lt (by omega)], by omega⟩
  refine ⟨by have := h.len; rw [List.length_take]; omega, fun i hi => ?_, fun i hi => ?_⟩
  · obtain ⟨e, hl⟩ := hat i hi
    rw [e]; exact h.each i hl
  · obtain ⟨e1, _⟩ := hat i (by omega)
    obtain ⟨e2, hl⟩ := hat (i + 1) hi
    rw [e1, e2]; exact h.asc i hl
theorem Rels.take {I : PH} {A : Option Addr} {c : Nat} {l : List Rel} (h : Rels I A c l) (k : Nat) : Rels I A c (l.take k) := by
  refine ⟨⟨fun j u hj => ?_, by have := h.outer.cap; rw [List.length_take]; omega, h.outer.max, fun x hx => h.outer.cells x (List.mem_of_mem_take hx)⟩, fun r hr => h.view r (List.mem_of_mem_take hr), fun r hr => h.val r (List.mem_of_mem_take hr)⟩
  refine h.outer.arr j u ?_
  have e : l.flatMap relC = (l.take k).flatMap relC ++ (l.drop k).flatMap relC := by rw [← List.flatMap_append, List.take_append_drop]
  rw [e, List.getElem?_append_left (List.getElem?_eq_some_iff.1 hj).1]
  exact hj
/-- Those before k are as after a further release. -/
structure Mid (l : List Int) (rs : List Rel) (m : Int) (base : List Exp) (i k : Nat) (os : List Exp) : Prop where
  len : os.length = base.length
  at_ : ∀ j, j < base.length → os.getD j default = expK l rs m (if j < k then i + 1 else i) (base.getD j default)
theorem Mid.start (l : List Int) (rs : List Rel) (m : Int) (base : List Exp) (i : Nat) : Mid l rs m base i 0 (base.map (expK l rs m i)) :=
  ⟨by rw [List.length_map], fun j hj => by rw [map_atX hj, if_neg (Nat.not_lt_zero _)]⟩
theorem ext_X {a b : List Exp} (hl : a.length = b.length) (h : ∀ j, j < a.length → a.getD j default = b.getD j default) : a = b := list_ext_d hl h
theorem Mid.done {l : List Int} {rs : List Rel} {m : Int} {base : List Exp} {i : Nat} {os : List Exp} (h : Mid l rs m base i base.length os) : os = base.map (expK l rs m (i + 1)) :=
  ext_X (by rw [h.len, List.length_map]) fun j hj => by rw [h.len] at hj; rw [h.at_ j hj, map_atX hj, if_pos hj]
theorem Mid.same {l : List Int} {rs : List Rel} {m : Int} {base : List Exp} {i k : Nat} {os : List Exp} (h : Mid l rs m base i k os) (hk : k < base.length) (he : firstN l rs m (base.getD k default).1 (i + 1) = firstN l rs m (base.getD k default).1 i) : Mid l rs m base i (k + 1) os :=
  ⟨h.len, fun j hj => by
    rw [h.at_ j hj]
    rcases Nat.lt_trichotomy j k with h1 | h1 | h1
    · rw [if_pos h1, if_pos (by omega)]
    · subst h1
      rw [if_neg (by omega), if_pos (by omega)]
      unfold expK
      rw [he]
    · rw [if_neg (by omega), if_neg (by omega)]⟩
theorem Mid.put {l : List Int} {rs : List Rel} {m : Int} {base : List Exp} {i k : Nat} {os : List Exp} (h : Mid l rs m base i k os) (hk : k < base.length) : Mid l rs m base i (k + 1) (os.set k (expK l rs m (i + 1) (base.getD k default))) :=
  ⟨by rw [List.length_set]; exact h.len, fun j hj => by
    rw [List.getD_eq_getElem?_getD]
    rcases Nat.lt_trichotomy j k with h1 | h1 | h1
    · rw [List.getElem?_set_ne (by omega), ← List.getD_eq_getElem?_getD, h.at_ j hj, if_pos h1, if_pos (by omega)]
    · subst h1
      rw [List.getElem?_set_self (by rw [h.len]; exact hj), if_pos (by omega)]; rfl
    · rw [List.getElem?_set_ne (by omega), ← List.getD_eq_getElem?_getD, h.at_ j hj, if_neg (by omega), if_neg (by omega)]⟩
end Go.Proofs.YtcmdemfhbekabaaGreat
/- Contracts of functions of the given program, and lemmas about plain lists and numbers: what the laws of this seat lean on. -/
namespace Go.Proofs.YtcmdemfhbekabaaGreat
open Go.Eng Go.Sol
attribute [local irreducible] opK wpList Code.wp Exit.then Exit.inBlock fnPost bodyPost Nx Calls Oper.wp Rd Rds Wr Ent Stars Blk Again Vec FnSpec wpMix QRun Stop Upto wpAt
/-! Fewer equations -/
theorem touch_mono {N : Nat} {l r : List EqR} (h : ∀ q ∈ l, q ∈ r) {c : Nat} (hc : c ∈ touch N (eqns l)) : c ∈ touch N (eqns r) := by
  obtain ⟨h1, q, hq, h2⟩ := mem_touch.1 hc
  obtain ⟨p, hp, rfl⟩ := List.mem_map.1 hq
  exact mem_touch.2 ⟨h1, eqn p, List.mem_map.2 ⟨p, h p hp, rfl⟩, h2⟩
theorem sols_fewer {N : Nat} {l r : List EqR} (hr : ∀ q ∈ r, GoodE N q) (h : ∀ q ∈ l, q ∈ r) {s : List Int} (hs : s ∈ solsOf N (eqns r)) : wantL N (touch N (eqns l)) s ∈ solsOf N (eqns l) :=
  want_sol (fun q hq => hr q (h q hq)) (fun c hc => ((mem_sols hr).1 hs).pos c (touch_mono h hc)) fun q hq => sols_sum hr hs q (h q hq)
theorem EqsOk.take {N : Nat} {t : List Int} {most : Int} {qs : List EqR} (h : EqsOk N t most qs) (k : Nat) : EqsOk N t most (qs.take k) :=
  ⟨h.n, h.len, h.tab, by have := h.few; rw [List.length_take]; omega, fun q hq => h.good q (List.mem_of_mem_take hq), fun q hq => h.sum q (List.mem_of_mem_take hq)⟩
theorem Eqs.take {I : PH} {A : Option Addr} {c : Nat} {l : List EqR} (h : Eqs I A c l) (k : Nat) : Eqs I A c (l.take k) := by
  refine ⟨⟨fun j u hj => ?_, by have := h.outer.cap; rw [List.length_take]; omega, h.outer.max, fun x hx => h.outer.cells x (List.mem_of_mem_take hx)⟩, fun q hq => h.inner q (List.mem_of_mem_take hq)⟩
  refine h.outer.arr j u ?_
  have e : l.flatMap eqC = (l.take k).flatMap eqC ++ (l.drop k).flatMap eqC := by rw [← List.flatMap_append, List.take_append_drop]
  rw [e, List.getElem?_append_left (List.getElem?_eq_some_iff.1 hj).1]
  exact hj
end Go.Proofs.YtcmdemfhbekabaaGreat
/- Contracts of functions of the given program, and lemmas about plain lists and numbers: what the laws of this seat lean on. -/
namespace Go.Proofs.YtcmdemfhbekabaaGreat
open Go.Eng Go.Sol
attribute [local irreducible] opK wpList Code.wp Exit.then Exit.inBlock fnPost bodyPost Nx Calls Oper.wp Rd Rds Wr Ent Stars Blk Again Vec FnSpec wpMix QRun Stop Upto wpAt
/-! Plain: a further release -/
theorem views_of {l t : List Int} {rs : List Rel} (h : RelsOk l t rs) : ∀ r ∈ rs, Viewed l r.v := fun r hr => by
  obtain ⟨i, hi, he⟩ := List.mem_iff_getElem.1 hr
  have := (h.each i hi).1.view
  rwa [List.getD_eq_getElem?_getD, List.getElem?_eq_getElem hi, show (some rs[i]).getD default = r from he] at this
theorem qsOf_snoc (l : List Int) (rs : List Rel) (r : Rel) : qsOf l (rs ++ [r]) = qsOf l rs ++ (told l r).map canonE := by
  unfold qsOf
  rw [List.flatMap_append, List.map_append, List.flatMap_cons, List.flatMap_nil, List.append_nil]
end Go.Proofs.YtcmdemfhbekabaaGreat
/- Contracts of functions of the given program, and lemmas about plain lists and numbers: what the laws of this seat lean on. -/
namespace Go.Proofs.YtcmdemfhbekabaaGreat
open Go.Eng Go.Sol
attribute [local irreducible] opK wpList Code.wp Exit.then Exit.inBlock fnPost bodyPost Nx Calls Oper.wp Rd Rds Wr Ent Stars Blk Again Vec FnSpec wpMix QRun Stop Upto wpAt
attribute [local irreducible] wpFork
theorem rel_one (l : List Rel) : ∀ u ∈ l.flatMap relC, u.oneCell' = true := fun u hu => by
  obtain ⟨x, _, hx⟩ := List.mem_flatMap.1 hu
  simp only [relC, List.mem_cons, List.not_mem_nil, or_false] at hx
  rcases hx with rfl | rfl | rfl <;> rfl
end Go.Proofs.YtcmdemfhbekabaaGreat
