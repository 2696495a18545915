/- Contracts of functions of the given program, and lemmas about plain lists and numbers: what the laws of this seat lean on. -/
import Derived.Test.YtjnhoemgceghlaaGreatProg
import Derived.Test.YtjnhoemgceghlaaGreatTs9
namespace Go.Proofs.YtjnhoemgceghlaaGreat
open Go.Eng Go.Sol
attribute [local irreducible] opK wpList Code.wp Exit.then Exit.inBlock fnPost bodyPost Nx Calls Oper.wp Rd Rds Wr Ent Stars Blk Again Vec FnSpec wpMix QRun Stop Upto wpAt
/-! What each cell can be: all tables are tried -/
abbrev SeenE := Option (Nat × List (Int × Unit))
def seenV : SeenE → Value
  | none => .map none
  | some p => .map (some p.1)
abbrev mapB (b : Nat) (l : List (Int × Unit)) : Res := MapS (Value.int .i64) (fun _ : Unit => Value.bool true) b l
def seenR : SeenE → Res
  | none => Stars []
  | some p => mapB p.1 p.2
def CellOk (o : SeenE) (Q : Int → Prop) : Prop := match o with
  | none => ∀ z, ¬ Q z
  | some p => (p.2.map (·.1)).Nodup ∧ ∀ z, z ∈ p.2.map (·.1) ↔ Q z
theorem CellOk.congr {o : SeenE} {Q Q' : Int → Prop} (h : CellOk o Q) (hq : ∀ z, Q' z ↔ Q z) : CellOk o Q' := by
  cases o with
  | none => exact fun z hz => h z ((hq z).1 hz)
  | some p => exact ⟨h.1, fun z => (h.2 z).trans (hq z).symm⟩
theorem CellOk.fresh {Q Q' : Int → Prop} (b : Nat) {v : Int} (h : CellOk none Q) (hq : ∀ z, Q' z ↔ z = v ∨ Q z) : CellOk (some (b, mset [] v ())) Q' :=
  ⟨mset_nodup (by simp), fun z => by
    rw [mset_keys, hq]
    have := h z
    simp [this]⟩
theorem CellOk.more {Q Q' : Int → Prop} {b : Nat} {l : List (Int × Unit)} {v : Int} (h : CellOk (some (b, l)) Q) (hq : ∀ z, Q' z ↔ z = v ∨ Q z) : CellOk (some (b, mset l v ())) Q' :=
  ⟨mset_nodup h.1, fun z => by rw [mset_keys, hq, h.2]⟩
/-- The tables that have been tried and agree. -/
def Vis (n : Nat) (U : List Nat) (rs : List Int) (S : List (List Int)) (cur : Int) (t : List Int) : Prop := t ∈ S ∧ ∃ E, InD rs E ∧ numD rs E < cur ∧ t = tabD n U E
theorem vis_step {n : Nat} {U : List Nat} {rs D : List Int} {S : List (List Int)} (hD : InD rs D) (t : List Int) : Vis n U rs S (numD rs D + 1) t ↔ Vis n U rs S (numD rs D) t ∨ (t ∈ S ∧ t = tabD n U D) := by
  constructor
  · rintro ⟨h1, E, h2, h3, h4⟩
    by_cases he : numD rs E = numD rs D
    · right
      rw [h4, numD_inj h2 hD he]
      exact ⟨by rw [← numD_inj h2 hD he, ← h4]; exact h1, rfl⟩
    · exact .inl ⟨h1, E, h2, by omega, h4⟩
  · rintro (⟨h1, E, h2, h3, h4⟩ | ⟨h1, h2⟩)
    · exact ⟨h1, E, h2, by omega, h4⟩
    · exact ⟨h1, D, hD, by omega, h2⟩
structure GoodS (n : Nat) (st : List SeenE) (fd : Bool) (V : List Int → Prop) : Prop where
  len : st.length = n
  cell : ∀ j, j < n → CellOk (st.getD j default) (fun z => ∃ t, V t ∧ t.getD j 0 = z)
  found : fd = true ↔ ∃ t, V t
theorem GoodS.congr {n : Nat} {st : List SeenE} {fd : Bool} {V V' : List Int → Prop} (h : GoodS n st fd V) (hv : ∀ t, V' t ↔ V t) : GoodS n st fd V' := by
  obtain rfl : V' = V := funext fun t => propext (hv t)
  exact h
theorem seen_get {st : List SeenE} {k : Nat} (hk : k < st.length) : (st.map seenR)[k]? = some (seenR (st.getD k default)) := by
  rw [List.getElem?_map, List.getD_eq_getElem?_getD, List.getElem?_eq_getElem hk]; rfl
theorem seen_set (st : List SeenE) (k : Nat) (x : SeenE) : (st.map seenR).set k (seenR x) = (st.set k x).map seenR := by rw [List.map_set]
theorem sumC_bd {t : List Int} {M : Int} (hM : 0 ≤ M) (h : ∀ c, 0 ≤ t.getD c 0 ∧ t.getD c 0 ≤ M) : ∀ cs : List Nat, 0 ≤ sumC t cs ∧ sumC t cs ≤ cs.length * M
  | [] => by simp [sumC]
  | c :: cs => by
    obtain ⟨h1, h2⟩ := sumC_bd hM h cs
    have := h c
    rw [sumC, List.length_cons, Int.natCast_succ, Int.add_mul, Int.one_mul]
    constructor <;> omega
theorem tabD_bd {n : Nat} {U : List Nat} {rs D : List Int} (hD : InD rs D) (hlen : rs.length = U.length) (hr : ∀ i, i < rs.length → rs.getD i 0 ≤ 1000001) (c : Nat) : 0 ≤ (tabD n U D).getD c 0 ∧ (tabD n U D).getD c 0 ≤ 1000000 := by
  by_cases hn : c < n
  · rw [tabD_get hn]
    split
    · rename_i hm
      have hi := List.idxOf_lt_length_of_mem hm
      have h1 := hD.at (j := U.idxOf c) (by omega)
      have h2 := hr (U.idxOf c) (by omega)
      omega
    · decide
  · rw [getD_ge (by rw [tabD_len]; omega)]; decide
theorem Rd.vecAt (k : Nat) {W : World} {I : PH} {R : List Res} {t : TypeId} {A : Option Addr} {n c : Nat} {l : List Int} {i : Nat} {v : Int} (hk : nthL R k = some (Vec t 1 A n c (l.map (Value.int .i64)))) (hi : i < l.length) (hv : l.getD i 0 = v) : Rd W I R ((ad A).add (i * 1)) (.int .i64 v) := by
  subst hv
  exact Rd.vecEl k (f := Value.int .i64) hk hi
abbrev seenA (bs n : Nat) (st : List SeenE) : Res := Vec 143 1 (some ⟨bs, 0, none⟩) n n (st.map seenV)
theorem nil_seen (n : Nat) {R : List Res} : Ent R (Stars (List.replicate n (seenR none)) :: R) := by
  induction n with
  | zero => exact Ent.stars_nil _
  | succ n ih =>
    rw [List.replicate_succ']
    exact ih.trans ((Ent.stars_nil _).trans Ent.bundle)
theorem seen_put {st : List SeenE} {k b : Nat} {l : List (Int × Unit)} {R : List Res} (hk : k < st.length) : Ent (mapB b l :: Stars (st.map seenR) :: R) (Stars ((st.set k (some (b, l))).map seenR) :: R) := by
  have h1 := Ent.takeOut k (R := mapB b l :: R) (seen_get hk)
  have h2 := Ent.putIn k (B := st.map seenR) (R := R) (r := mapB b l) (by rw [List.length_map]; exact hk)
  rw [show (st.map seenR).set k (mapB b l) = (st.set k (some (b, l))).map seenR from seen_set st k (some (b, l))] at h2
  exact (Ent.swap _ _ _).trans (h1.trans ((Ent.drop (Ent.swap _ _ _)).trans h2))
theorem seen_back {st : List SeenE} {k b : Nat} {l : List (Int × Unit)} {R : List Res} (hk : k < st.length) : Ent (mapB b l :: Stars ((st.map seenR).eraseIdx k) :: R) (Stars ((st.set k (some (b, l))).map seenR) :: R) := by
  have h2 := Ent.putIn k (B := st.map seenR) (R := R) (r := mapB b l) (by rw [List.length_map]; exact hk)
  rw [show (st.map seenR).set k (mapB b l) = (st.set k (some (b, l))).map seenR from seen_set st k (some (b, l))] at h2
  exact h2
theorem seenV_set {st : List SeenE} {k b : Nat} {l l' : List (Int × Unit)} (hk : k < st.length) (h : st.getD k default = some (b, l)) : (st.set k (some (b, l'))).map seenV = st.map seenV := by
  rw [List.map_set]
  have e : (st.map seenV)[k]'(by rw [List.length_map]; exact hk) = seenV (some (b, l')) := by
    rw [List.getElem_map]
    rw [List.getD_eq_getElem?_getD, List.getElem?_eq_getElem hk] at h
    rw [show st[k] = some (b, l) from h]; rfl
  rw [← e]
  exact List.set_getElem_self _
def ValsPost (n : Nat) (L : List Eqn) (v : Value) (R' : List Res) : Prop :=
  ∃ (A' : Option Addr) (c' : Nat) (o : List Row), o.map (·.2.2) = (if solsOf n L = [] then [] else (List.range n).map (valsOf n L)) ∧ v = .slice A' o.length c' ∧ R' = rowsR A' c' o
theorem keys_len {xs : List Int} (hn : xs.Nodup) (hz : ∀ z ∈ xs, 0 ≤ z ∧ z < 1000001) : xs.length ≤ 1000001 := by
  have h1 := srtL_sorted xs
  have h2 : (srtL xs).Nodup := (List.mergeSort_perm xs _).nodup_iff.2 hn
  have h3 := asc_room ((h1.and h2).imp fun h => Int.lt_iff_le_and_ne.2 h) (a := 0) (b := 1000001) fun x hx => hz x (srtL_mem xs x |>.1 hx)
  rw [srtL_len] at h3
  omega
theorem row_set {o : List Row} {k : Nat} (x : Row) : (o.map rwR).set k (rwR x) = (o.set k x).map rwR := by rw [List.map_set]
theorem row_getw {o : List Row} {k : Nat} (hk : k < o.length) : (o.map rwR)[k]? = some (rwR (o.getD k default)) := by
  rw [List.getElem?_map, List.getD_eq_getElem?_getD, List.getElem?_eq_getElem hk]; rfl
set_option maxRecDepth 10000 in
set_option maxHeartbeats 64000000 in
theorem values_end (w : World) (F : Res) (n bs : Nat) (L : List Eqn) (fd : Bool) (st : List SeenE) (I0 I : PH) (hle : PH.le I0 I) (hn1 : 1 ≤ n) (hn : n ≤ 4096) (hG : GoodS n st fd (fun t => t ∈ solsOf n L)) (hb : ∀ s ∈ solsOf n L, ∀ j, 0 ≤ s.getD j 0 ∧ s.getD j 0 ≤ 1000000) :
    Nx ⟨Tryz.prog, 115, w⟩ [(0, .int .i64 (n : Int)), (5, .slice (some ⟨bs, 0, none⟩) n n), (6, .bool fd)] I [seenA bs n st, Stars (st.map seenR), F]
      (Code.wp Tryz.prog (cr (cr (cr (cr (cr (cl (cr (bodyOf Tryz.f69)))))))) (fnPost Tryz.prog Tryz.f69 I0 F w (ValsPost n L))) := by
  unfold ValsPost
  cases fd with
  | false =>
    have hnil : solsOf n L = [] := by
      cases hS : solsOf n L with
      | nil => rfl
      | cons t T =>
        have := hG.found.2 ⟨t, by rw [hS]; simp⟩
        cases this
    rw [if_pos hnil]
    repeat' first
      | ((with_reducible refine Nx.is_wp ?_); first | refine Nx.wo ?_ | refine Nx.zp (fun hc => ?_) (fun hc => ?_))
      | (refine Nx.zo ?_; first | refine Nx.opr rfl rfl ?_ | refine Nx.so ?_ | refine Nx.sb (fun bx => ?_) | refine Nx.sa (fun A2 c2 => ?_))
      | ((with_reducible refine Nx.is_at ?_); first | refine Nx.a ?_ | refine Nx.zd ?_ | refine Nx.zs (fun hc => ?_) (fun hc => ?_))
      | ((with_reducible refine Nx.is_mix ?_); first | refine Nx.m ?_ | refine Nx.zm ?_ | refine Nx.zt (fun hc => ?_) (fun hc => ?_))
      | refine Nx.zx ?_ | fail
    exact Nx.imm_le hle (Nx.ret_fn rfl [_, _] ⟨none, 0, [], rfl, rfl, rfl⟩ ((Ent.vec_nil 25 1 _).trans ((Ent.stars_nil _).trans (by (exact Ent.auto)))))
  | true =>
    obtain ⟨t0, ht0⟩ := hG.found.1 rfl
    rw [if_neg (fun h => by rw [h] at ht0; cases ht0)]
    have hsome : ∀ j, j < n → ∃ b ps, st.getD j default = some (b, ps) ∧ (ps.map (·.1)).Nodup ∧ (∀ z, z ∈ ps.map (·.1) ↔ ∃ s ∈ solsOf n L, s.getD j 0 = z) ∧ ps.length ≤ 1000001 := fun j hj => by
      have hc := hG.cell j hj
      cases hs : st.getD j default with
      | none => rw [hs] at hc; exact absurd ⟨t0, ht0, rfl⟩ (hc (t0.getD j 0))
      | some p =>
        obtain ⟨b, ps⟩ := p
        rw [hs] at hc
        refine ⟨b, ps, rfl, hc.1, fun z => (hc.2 z).trans ⟨fun ⟨t, h1, h2⟩ => ⟨t, h1, h2⟩, fun ⟨t, h1, h2⟩ => ⟨t, h1, h2⟩⟩, ?_⟩
        rw [← List.length_map (f := (·.1))]
        refine keys_len hc.1 fun z hz => ?_
        obtain ⟨t, h1, rfl⟩ := (hc.2 z).1 hz
        have := hb t h1 j
        omega
    have hstl := hG.len
    clear hG hb
    repeat' first
      | ((with_reducible refine Nx.is_wp ?_); first | refine Nx.wo ?_ | refine Nx.zp (fun hc => ?_) (fun hc => ?_))
      | (refine Nx.zo ?_; first | refine Nx.opr rfl rfl ?_ | refine Nx.makeSlice (by_ := 24) rfl rfl rfl rfl rfl rfl rfl rfl rfl (by omega) (by unfold maxLen; omega) (fun bo => ?_) | refine Nx.so ?_ | refine Nx.sb (fun bx => ?_) | refine Nx.sa (fun A2 c2 => ?_))
      | ((with_reducible refine Nx.is_at ?_); first | refine Nx.a ?_ | refine Nx.zd ?_ | refine Nx.zs (fun hc => ?_) (fun hc => ?_))
      | ((with_reducible refine Nx.is_mix ?_); first | refine Nx.m ?_ | refine Nx.zm ?_ | refine Nx.zt (fun hc => ?_) (fun hc => ?_))
      | refine Nx.zx ?_ | fail
    refine Nx.p_loop (σ := Nat × List Row) (fun s => [(16, .slice (some ⟨bo, 0, none⟩) n n), (85, .slice (some ⟨bs, 0, none⟩) n n), (86, .int .i64 (n : Int)), (87, .int .i64 (s.1 : Int))])
      (fun s => [Vec 25 1 (some ⟨bo, 0, none⟩) n n (s.2.map rowV), Stars (s.2.map rwR), seenA bs n st, Stars ((st.drop s.1).map seenR), F]) (fun s => s.1 ≤ n ∧ s.2.length = n ∧ (∀ i, i < s.1 → (s.2.getD i default).2.2 = valsOf n L i) ∧ ∀ i, s.1 ≤ i → i < n → s.2.getD i default = (none, 0, [])) (fun s => n - s.1) (0, List.replicate n (none, 0, [])) rfl ⟨Nat.zero_le _, List.length_replicate, fun i hi => absurd hi (Nat.not_lt_zero _), fun i _ hi => by rw [List.getD_eq_getElem?_getD, List.getElem?_replicate, if_pos hi]; rfl⟩ ⟨rfl, rfl, rfl, rfl, trivial⟩ ((nil_rwR n).trans (by simp only [List.map_replicate, List.drop_zero, rowV, List.length_nil]; (exact Ent.auto))) ?_
    rintro ⟨k, o⟩ ⟨hk, hol, hdone, hnil⟩
    dsimp only at hk hol hdone hnil ⊢
    by_cases hkn : k < n
    case neg =>
      obtain rfl : k = n := by omega
      repeat' first
        | ((with_reducible refine Nx.is_wp ?_); first | refine Nx.wo ?_ | refine Nx.zp (fun hc => ?_) (fun hc => ?_))
        | (refine Nx.zo ?_; first | refine Nx.opr rfl rfl ?_ | refine Nx.so ?_ | refine Nx.sb (fun bx => ?_) | refine Nx.sa (fun A2 c2 => ?_))
        | ((with_reducible refine Nx.is_at ?_); first | refine Nx.a ?_ | refine Nx.zd ?_ | refine Nx.zs (fun hc => ?_) (fun hc => ?_))
        | ((with_reducible refine Nx.is_mix ?_); first | refine Nx.m ?_ | refine Nx.zm ?_ | refine Nx.zt (fun hc => ?_) (fun hc => ?_))
        | refine Nx.zx ?_ | fail
      refine Nx.imm_le hle (Nx.ret_fn rfl [_, _] ⟨some ⟨bo, 0, none⟩, k, o, ?_, by rw [hol], rfl⟩ (by rw [hol]; (exact Ent.auto)))
      refine List.ext_getElem? fun i => ?_
      rw [List.getElem?_map, List.getElem?_map]
      by_cases hi : i < k
      · have h3 := hdone i hi
        rw [List.getElem?_eq_getElem (show i < o.length by omega), List.getElem?_range hi]
        rw [List.getD_eq_getElem?_getD, List.getElem?_eq_getElem (show i < o.length by omega)] at h3
        exact congrArg some h3
      · rw [List.getElem?_eq_none (show o.length ≤ i by omega), List.getElem?_eq_none (show (List.range k).length ≤ i by rw [List.length_range]; omega)]
        rfl
    obtain ⟨bk, ps, hst, hnd, hmem, hpl⟩ := hsome k hkn
    have hok0 := hnil k (Nat.le_refl _) hkn
    have hsr : ∀ (W : World) (R : List Res) (r0 r1 : Res), Rd W I (r0 :: r1 :: seenA bs n st :: R) ((ad (some ⟨bs, 0, none⟩)).add (k * 1)) (.map (some bk)) := fun W R r0 r1 => by
      have h := Rd.vecEl (W := W) (I := I) (R := r0 :: r1 :: seenA bs n st :: R) 2 (f := seenV) (l := st) (i := k) rfl (by omega)
      rw [hst] at h
      exact h
    have hdr : (st.drop k).map seenR = seenR (some (bk, ps)) :: (st.drop (k + 1)).map seenR := by
      rw [List.drop_eq_getElem_cons (show k < st.length by omega), List.map_cons]
      rw [List.getD_eq_getElem?_getD, List.getElem?_eq_getElem (show k < st.length by omega)] at hst
      rw [show st[k] = some (bk, ps) from hst]
    rw [hdr]
    refine Nx.ent (R' := [Vec 25 1 (some ⟨bo, 0, none⟩) n n (o.map rowV), Stars (o.map rwR), seenA bs n st, Stars (mapB bk ps :: (st.drop (k + 1)).map seenR), F]) (by unfold mapB seenR; (exact Ent.auto)) ?_
    refine Nx.ent (R' := [mapB bk ps, rwR (none, 0, []), seenA bs n st, Vec 25 1 (some ⟨bo, 0, none⟩) n n (o.map rowV), Stars ((o.map rwR).eraseIdx k), Stars ((st.drop (k + 1)).map seenR), F]) ?_ ?_
    · refine Ent.trans (R' := [Stars (mapB bk ps :: (st.drop (k + 1)).map seenR), Stars (o.map rwR), Vec 25 1 (some ⟨bo, 0, none⟩) n n (o.map rowV), seenA bs n st, F]) (by (exact Ent.auto)) ((Ent.takeOut 0 rfl).trans ?_)
      have hgo := row_getw (o := o) (k := k) (by omega)
      rw [hok0] at hgo
      refine Ent.trans (R' := [Stars (o.map rwR), mapB bk ps, Stars ((st.drop (k + 1)).map seenR), Vec 25 1 (some ⟨bo, 0, none⟩) n n (o.map rowV), seenA bs n st, F]) (by rw [List.eraseIdx_cons_zero]; (exact Ent.auto)) ((Ent.takeOut k hgo).trans (by (exact Ent.auto)))
    repeat' first
      | ((with_reducible refine Nx.is_wp ?_); first | refine Nx.wo ?_ | refine Nx.zp (fun hc => ?_) (fun hc => ?_))
      | (refine Nx.zo ?_; first | refine Nx.opr rfl rfl ?_ | refine Nx.indexAddr_nat (A := some ⟨bs, 0, none⟩) (i := k) (sz := 1) rfl rfl rfl rfl rfl hkn rfl ?_ | refine Nx.load rfl rfl rfl (hsr _ _ _ _) ?_ | refine Nx.mapRange 0 (Value.int .i64) (fun _ : Unit => Value.bool true) rfl rfl rfl rfl (fun r => ?_) | refine Nx.so ?_ | refine Nx.sb (fun bx => ?_) | refine Nx.sa (fun A2 c2 => ?_))
      | ((with_reducible refine Nx.is_at ?_); first | refine Nx.a ?_ | refine Nx.zd ?_ | refine Nx.zs (fun hc => ?_) (fun hc => ?_))
      | ((with_reducible refine Nx.is_mix ?_); first | refine Nx.m ?_ | refine Nx.zm ?_ | refine Nx.zt (fun hc => ?_) (fun hc => ?_))
      | refine Nx.zx ?_ | fail
    have hos0 : o.set k (none, 0, []) = o := by
      rw [← hok0, List.getD_eq_getElem?_getD, List.getElem?_eq_getElem (show k < o.length by omega)]
      exact List.set_getElem_self _
    refine Nx.p_loop (σ := Row × List (Int × Unit)) (fun s => [(16, .slice (some ⟨bo, 0, none⟩) n n), (17, .int .i64 (k : Int)), (85, .slice (some ⟨bs, 0, none⟩) n n), (86, .int .i64 (n : Int)), (87, .int .i64 (k : Int)), (93, .pointer (some ⟨r, 0, none⟩))])
      (fun s => [IterR (Value.int .i64) (fun _ : Unit => Value.bool true) bk r ps s.2, rwR s.1, seenA bs n st, Vec 25 1 (some ⟨bo, 0, none⟩) n n ((o.set k s.1).map rowV), Stars ((o.map rwR).eraseIdx k), Stars ((st.drop (k + 1)).map seenR), F]) (fun s => (s.1.2.2 ++ s.2.map (·.1)).Perm (ps.map (·.1))) (fun s => s.2.length) ((none, 0, []), ps) rfl (List.Perm.refl _) ⟨rfl, rfl, rfl, rfl, rfl, rfl, trivial⟩ (by dsimp only; rw [hos0]; (exact Ent.auto)) ?_
    rintro ⟨⟨Ar, cr', xs⟩, left⟩ hp
    dsimp only at hp ⊢
    have hxl : xs.length + left.length ≤ 1000001 := by
      have := hp.length_eq
      rw [List.length_append, List.length_map, List.length_map] at this
      omega
    have hol2 : (o.set k (Ar, cr', xs)).length = n := by rw [List.length_set]; exact hol
    have hrv : ∀ (W : World) (R : List Res) (r0 r1 r2 : Res), Rd W I (r0 :: r1 :: r2 :: Vec 25 1 (some ⟨bo, 0, none⟩) n n ((o.set k (Ar, cr', xs)).map rowV) :: R) ((ad (some ⟨bo, 0, none⟩)).add (k * 1)) (.slice Ar xs.length cr') := fun W R r0 r1 r2 => by
      have h := Rd.vecEl (W := W) (I := I) (R := r0 :: r1 :: r2 :: Vec 25 1 (some ⟨bo, 0, none⟩) n n ((o.set k (Ar, cr', xs)).map rowV) :: R) 3 (f := rowV) (l := o.set k (Ar, cr', xs)) (i := k) rfl (by omega)
      rw [show (o.set k (Ar, cr', xs)).getD k default = (Ar, cr', xs) by rw [List.getD_eq_getElem?_getD, List.getElem?_set_self (by omega)]; rfl] at h
      exact h
    have hSo := Sort_spec Ar cr' xs I (by omega)
    repeat' first
      | ((with_reducible refine Nx.is_wp ?_); first | refine Nx.wo ?_ | refine Nx.zp (fun hc => ?_) (fun hc => ?_))
      | (refine Nx.zo ?_; first | refine Nx.opr rfl rfl ?_ | refine Nx.mapNext 0 rfl rfl rfl (fun hl0 => ?_) (fun pa p pc hl1 => ?_) | refine Nx.mapEntry 0 rfl rfl rfl ?_ | refine Nx.indexAddr_nat (A := some ⟨bo, 0, none⟩) (i := k) (sz := 1) rfl rfl rfl rfl rfl hkn rfl ?_ | refine Nx.load rfl rfl rfl (hrv _ _ _ _ _) ?_ | refine Nx.append_lit 1 rfl rfl rfl rfl (by kernel_rfl) rfl rfl rfl rfl (by omega) (fun A8 c8 => ?_) | refine Nx.store_of 3 rowV (z := (A8, c8, xs ++ [p.1])) rfl (by unfold rowV; dsimp only; rw [List.length_append]; rfl) rfl rfl rfl rfl (by omega) ?_ | (refine Nx.call rfl rfl rfl (by kernel_rfl) rfl hSo (by unfold rwR iR; (exact Ent.auto)) ?_; rintro _ _ ⟨rfl, rfl⟩) | refine Nx.so ?_ | refine Nx.sb (fun bx => ?_) | refine Nx.sa (fun A2 c2 => ?_))
      | ((with_reducible refine Nx.is_at ?_); first | refine Nx.a ?_ | refine Nx.zd ?_ | refine Nx.zs (fun hc => ?_) (fun hc => ?_))
      | ((with_reducible refine Nx.is_mix ?_); first | refine Nx.m ?_ | refine Nx.zm ?_ | refine Nx.zt (fun hc => ?_) (fun hc => ?_))
      | refine Nx.zx ?_ | fail
    · subst hl0
      rw [List.map_nil, List.append_nil] at hp
      have hsv := srt_vals (hp.nodup_iff.2 hnd) fun z => (hp.mem_iff).trans (hmem z)
      refine Nx.again (k + 1, o.set k (Ar, cr', srtL xs)) ⟨hkn, by dsimp only; rw [List.length_set]; exact hol, fun i hi => ?_, fun i hi1 hi2 => ?_⟩ (by dsimp only; omega) ⟨rfl, rfl, rfl, rfl, trivial⟩ ?_
      · dsimp only at hi ⊢
        by_cases hik : i = k
        · subst hik
          rw [List.getD_eq_getElem?_getD, List.getElem?_set_self (by omega)]
          exact hsv
        · rw [List.getD_eq_getElem?_getD, List.getElem?_set_ne (Ne.symm hik), ← List.getD_eq_getElem?_getD]
          exact hdone i (by omega)
      · dsimp only at hi1 ⊢
        rw [List.getD_eq_getElem?_getD, List.getElem?_set_ne (by omega), ← List.getD_eq_getElem?_getD]
        exact hnil i (by omega) hi2
      · dsimp only
        have hV : (o.set k (Ar, cr', xs)).map rowV = (o.set k (Ar, cr', srtL xs)).map rowV := by
          rw [List.map_set, List.map_set]
          congr 1
          unfold rowV; dsimp only; rw [srtL_len]
        rw [← row_set, ← hV]
        refine Ent.trans (R' := [rwR (Ar, cr', srtL xs), Stars ((o.map rwR).eraseIdx k), Vec 25 1 (some ⟨bo, 0, none⟩) n n ((o.set k (Ar, cr', xs)).map rowV), seenA bs n st, Stars ((st.drop (k + 1)).map seenR), F]) (by unfold rwR iR; (exact Ent.auto)) ((Ent.putIn k (by rw [List.length_map]; omega)).trans (by (exact Ent.auto)))
    · subst hl1
      refine Nx.again ((A8, c8, xs ++ [p.1]), pa ++ pc) ?_ (by simp) ⟨rfl, rfl, rfl, rfl, rfl, rfl, trivial⟩ ?_
      · dsimp only
        rw [List.map_append, List.append_assoc]
        rw [List.map_append, List.map_cons] at hp
        exact (List.Perm.append_left xs (List.perm_middle (l₁ := pa.map (·.1)) (a := p.1) (l₂ := pc.map (·.1))).symm).trans hp
      · dsimp only
        refine Ent.trans ?_ (Ent.iterAt (p := p))
        rw [List.set_set]
        unfold rwR iR
        dsimp only
        rw [List.length_append (bs := [_]), List.map_append]
        (exact Ent.auto)
set_option maxRecDepth 10000 in
set_option maxHeartbeats 64000000 in
theorem values_spec (A : Option Addr) (c : Nat) (l : List EqR) (n : Nat) (I : PH) (hl : Eqs I A c l) (hg : ∀ q ∈ l, GoodE n q) (hn1 : 1 ≤ n) (hn : n ≤ 4096) (h9 : (allC l).length ≤ 1000000) :
    FnSpec Tryz.prog 69 [.int .i64 (n : Int), .slice A l.length c] I [] (ValsPost n (eqns l)) := by
  have hlen := hl.len
  have hSt := dstart_spec A c l n I hl hg hn h9
  unfold DStartPost at hSt
  refine FnSpec.enterP Tryz.func69 rfl Tryz.ntmps69 rfl fun w F => ?_
  repeat' first
    | refine Nx.p_scope rfl (by repeat first | exact NoG.fn | refine NoG.then_ ?_ | refine NoG.inB ?_) ?_
    | ((with_reducible refine Nx.is_wp ?_); first | refine Nx.p_stopr 4 rfl ?_ | refine Nx.wo ?_ | refine Nx.zp (fun hc => ?_) (fun hc => ?_))
    | (refine Nx.zo ?_; first | refine Nx.opr rfl rfl ?_ | refine Nx.makeSlice (by_ := 8) rfl rfl rfl rfl rfl rfl rfl rfl rfl (by omega) (by unfold maxLen; omega) (fun bs => ?_) | (refine Nx.call (Rpre := []) rfl rfl rfl (by kernel_rfl) rfl hSt (Ent.refl _) ?_; rintro _ _ ⟨b, At, ct, As, cs, bt, rfl, rfl⟩) | refine Nx.so ?_ | refine Nx.sb (fun bx => ?_) | refine Nx.sa (fun A2 c2 => ?_))
    | ((with_reducible refine Nx.is_at ?_); first | refine Nx.a ?_ | refine Nx.zd ?_ | refine Nx.zs (fun hc => ?_) (fun hc => ?_))
    | ((with_reducible refine Nx.is_mix ?_); first | refine Nx.m ?_ | refine Nx.zm ?_ | refine Nx.zt (fun hc => ?_) (fun hc => ?_))
    | refine Nx.zx ?_ | fail
  refine Nx.unstop ?_
  refine Nx.weak (e' := [(0, .int .i64 (n : Int)), (1, .slice A l.length c), (5, .slice (some ⟨bs, 0, none⟩) n n), (6, .bool false), (7, .pointer (some ⟨b, 0, none⟩))]) (R' := [iR At ct (natI (touch n (eqns l))), iR As cs (roomsOf n (eqns l)), digR b At As ct cs bt n (touch n (eqns l)) (roomsOf n (eqns l)), tabR bt n (List.replicate n 0), Vec 143 1 (some ⟨bs, 0, none⟩) n n (List.replicate n (Value.map none)), F]) ⟨rfl, rfl, rfl, rfl, rfl, trivial⟩ (by (exact Ent.auto)) ?_
  refine Nx.freezeAt 0 rfl fun I1 m1 hI1 hm1 h1 => ?_
  refine Nx.freezeAt 0 rfl fun I2 m2 hI2 hm2 h2 => ?_
  have hle := hI1.trans hI2
  have hc : Ints I2 At ct (natI (touch n (eqns l))) := SliceOf.mono hI2 (Vec.sliceOf hm1 h1)
  have hs : Ints I2 As cs (roomsOf n (eqns l)) := Vec.sliceOf hm2 h2
  replace hl := hl.mono hle
  have hU := touch_nd n (eqns l)
  have hin : ∀ i, i < (touch n (eqns l)).length → (touch n (eqns l)).getD i 0 < n := fun i hi => (mem_touch.1 (idx_at (touch_nd _ _) hi).1).1
  have hrl := rooms_len n (eqns l)
  have hval : ∀ q ∈ eqns l, 0 ≤ q.2 := fun q hq => by
    obtain ⟨x, hx, rfl⟩ := List.mem_map.1 hq
    exact (hg x hx).val.1
  have hrr : ∀ i, i < (roomsOf n (eqns l)).length → 1 ≤ (roomsOf n (eqns l)).getD i 0 ∧ (roomsOf n (eqns l)).getD i 0 ≤ 1000001 := fun i hi => by
    rw [rooms_get (by omega)]
    exact room_bd hval
  have htsol : ∀ D, InD (roomsOf n (eqns l)) D → (∀ q ∈ eqns l, sumC (tabD n (touch n (eqns l)) D) q.1 = q.2) → tabD n (touch n (eqns l)) D ∈ solsOf n (eqns l) := fun D hD h => tab_sol hg hD h
  have hsolt : ∀ s ∈ solsOf n (eqns l), ∃ D, InD (roomsOf n (eqns l)) D ∧ s = tabD n (touch n (eqns l)) D := fun s hs => sol_tab hg hs
  have hssum : ∀ s ∈ solsOf n (eqns l), ∀ q ∈ eqns l, sumC s q.1 = q.2 := fun s hs => ((mem_sols hg).1 hs).sum
  have hz0 : tabD n (touch n (eqns l)) ((roomsOf n (eqns l)).map fun _ => 0) = List.replicate n 0 := by
    refine ext_len (by rw [tabD_len, List.length_replicate]) fun c => ?_
    rw [zeros_at]
    by_cases hcn : c < n
    · rw [tabD_get hcn]
      split
      · rename_i hm
        have hi := List.idxOf_lt_length_of_mem hm
        rw [List.getD_eq_getElem?_getD, List.getElem?_map, List.getElem?_eq_getElem (by omega)]; rfl
      · rfl
    · exact getD_ge (by rw [tabD_len]; omega)
  have hin0 : InD (roomsOf n (eqns l)) ((roomsOf n (eqns l)).map fun _ => 0) := InD.of (List.length_map _) fun j hj => by
    rw [List.getD_eq_getElem?_getD, List.getElem?_map, List.getElem?_eq_getElem hj]
    have := hrr j hj
    exact ⟨Int.le_refl _, by show (0 : Int) < _; omega⟩
  have hnum0 : numD (roomsOf n (eqns l)) ((roomsOf n (eqns l)).map fun _ => 0) = 0 := by
    have := (zeros_in hin0).2
    rw [List.map_map] at this
    exact this
  rw [← hz0]
  unfold ValsPost
  generalize touch n (eqns l) = U at hc hU hin hrl htsol hsolt hz0 ⊢
  generalize roomsOf n (eqns l) = rs at hs hrl hrr htsol hsolt hz0 hin0 hnum0 ⊢
  rw [show (List.replicate n (Value.map none)) = (List.replicate n (none : SeenE)).map seenV by rw [List.map_replicate]; rfl]
  have hNx := fun D hD => next_spec b At As ct cs bt n U rs D I2 hc hs hD hrl hU hin fun i hi => (hrr i hi).2
  unfold NextPost at hNx
  repeat' first
    | ((with_reducible refine Nx.is_wp ?_); first | refine Nx.wo ?_ | refine Nx.zp (fun hc => ?_) (fun hc => ?_))
    | (refine Nx.zo ?_; first | refine Nx.opr rfl rfl ?_ | refine Nx.so ?_ | refine Nx.sb (fun bx => ?_) | refine Nx.sa (fun A2 c2 => ?_))
    | ((with_reducible refine Nx.is_at ?_); first | refine Nx.a ?_ | refine Nx.zd ?_ | refine Nx.zs (fun hc => ?_) (fun hc => ?_))
    | ((with_reducible refine Nx.is_mix ?_); first | refine Nx.m ?_ | refine Nx.zm ?_ | refine Nx.zt (fun hc => ?_) (fun hc => ?_))
    | refine Nx.zx ?_ | fail
  refine Nx.p_loop (σ := List Int × Int × Bool × Bool × List SeenE) (fun s => [(0, .int .i64 (n : Int)), (1, .slice A l.length c), (5, .slice (some ⟨bs, 0, none⟩) n n), (6, .bool s.2.2.2.1), (7, .pointer (some ⟨b, 0, none⟩)), (8, .bool s.2.2.1)])
    (fun s => [digR b At As ct cs bt n U rs, tabR bt n (tabD n U s.1), seenA bs n s.2.2.2.2, Stars (s.2.2.2.2.map seenR), F])
    (fun s => InD rs s.1 ∧ GoodS n s.2.2.2.2 s.2.2.2.1 (Vis n U rs (solsOf n (eqns l)) s.2.1) ∧ (s.2.2.1 = true → s.2.1 = numD rs s.1) ∧ (s.2.2.1 = false → s.2.1 = prodD rs)) (fun s => (prodD rs - s.2.1).toNat) (rs.map fun _ => 0, 0, true, false, List.replicate n none) rfl ⟨hin0, ?_, fun _ => hnum0.symm, fun h => (by cases h)⟩ ⟨rfl, rfl, rfl, rfl, rfl, rfl, trivial⟩ ?_ ?_
  · have hno : ∀ t, ¬ Vis n U rs (solsOf n (eqns l)) 0 t := fun t ⟨_, E, h1, h2, _⟩ => by have := (numD_bd h1).1; omega
    exact ⟨List.length_replicate, fun j hj => by
      rw [List.getD_eq_getElem?_getD, List.getElem?_replicate, if_pos hj]
      exact fun z ⟨t, h1, _⟩ => hno t h1, ⟨fun h => (by cases h), fun ⟨t, ht⟩ => absurd ht (hno t)⟩⟩
  · dsimp only
    rw [List.map_replicate (f := seenR)]
    exact (nil_seen n).trans (by unfold digR tabR seenA; (exact Ent.auto))
  rintro ⟨D, cur, more, fd, st⟩ ⟨hD, hG, hmt, hmf⟩
  dsimp only at hD hG hmt hmf ⊢
  cases more with
  | false =>
    have hcur := hmf rfl
    subst hcur
    clear hmt hmf
    have hall : ∀ t, t ∈ solsOf n (eqns l) ↔ Vis n U rs (solsOf n (eqns l)) (prodD rs) t := fun t => ⟨fun h => by
      obtain ⟨E, h1, h2⟩ := hsolt t h
      exact ⟨h, E, h1, (numD_bd h1).2, h2⟩, fun h => h.1⟩
    have hbd : ∀ s ∈ solsOf n (eqns l), ∀ j, 0 ≤ s.getD j 0 ∧ s.getD j 0 ≤ 1000000 := fun s h j => by
      obtain ⟨E, h1, rfl⟩ := hsolt s h
      exact tabD_bd h1 hrl (fun i hi => (hrr i hi).2) j
    repeat' first
      | ((with_reducible refine Nx.is_wp ?_); first | refine Nx.p_stops 26 rfl ?_ | refine Nx.wo ?_ | refine Nx.zp (fun hc => ?_) (fun hc => ?_))
      | (refine Nx.zo ?_; first | refine Nx.opr rfl rfl ?_ | refine Nx.so ?_ | refine Nx.sb (fun bx => ?_) | refine Nx.sa (fun A2 c2 => ?_))
      | ((with_reducible refine Nx.is_at ?_); first | refine Nx.a ?_ | refine Nx.zd ?_ | refine Nx.zs (fun hc => ?_) (fun hc => ?_))
      | ((with_reducible refine Nx.is_mix ?_); first | refine Nx.m ?_ | refine Nx.zm ?_ | refine Nx.zt (fun hc => ?_) (fun hc => ?_))
      | refine Nx.zx ?_ | fail
    refine Nx.unstop ?_
    refine Nx.weak ?_ ?_ (values_end w F n bs (eqns l) fd st I I2 hle hn1 hn (hG.congr hall) hbd)
    · exact ⟨rfl, rfl, rfl, trivial⟩
    · (exact Ent.auto)
  | true =>
    have hcur := hmt rfl
    subst hcur
    clear hmt hmf
    have hnx := hNx D hD
    have hnb := numD_bd hD
    have hns := fun D' (h : nextD rs D = some D') => nextD_some hD h
    have hne := fun (h : nextD rs D = none) => nextD_end hD h
    have hz : InD rs (zerD D 0) := (zeros_in hD).1
    have hvs := fun t => vis_step (n := n) (U := U) (S := solsOf n (eqns l)) hD t
    have hTs := htsol D hD
    have hTb := tabD_bd (n := n) hD hrl (fun i hi => (hrr i hi).2)
    have hTl := tabD_len n U D
    generalize tabD n U D = T at hnx hvs hTs hTb hTl
    repeat' first
      | ((with_reducible refine Nx.is_wp ?_); first | refine Nx.wo ?_ | refine Nx.zp (fun hc => ?_) (fun hc => ?_))
      | (refine Nx.zo ?_; first | refine Nx.opr rfl rfl ?_ | refine Nx.so ?_ | refine Nx.sb (fun bx => ?_) | refine Nx.sa (fun A2 c2 => ?_))
      | ((with_reducible refine Nx.is_at ?_); first | refine Nx.a ?_ | refine Nx.zd ?_ | refine Nx.zs (fun hc => ?_) (fun hc => ?_))
      | ((with_reducible refine Nx.is_mix ?_); first | refine Nx.m ?_ | refine Nx.zm ?_ | refine Nx.zt (fun hc => ?_) (fun hc => ?_))
      | refine Nx.zx ?_ | fail
    refine Nx.p_loop (σ := Nat) (fun i => [(0, .int .i64 (n : Int)), (1, .slice A l.length c), (5, .slice (some ⟨bs, 0, none⟩) n n), (6, .bool fd), (7, .pointer (some ⟨b, 0, none⟩)), (28, .slice A l.length c), (29, .int .i64 l.length), (30, .int .i64 (i : Int))])
      (fun _ => [digR b At As ct cs bt n U rs, tabR bt n T, seenA bs n st, Stars (st.map seenR), F]) (fun i => i ≤ l.length ∧ ∀ q ∈ l.take i, sumC T (eqn q).1 = q.2) (fun i => l.length - i) 0 rfl ⟨Nat.zero_le _, by simp⟩ ⟨rfl, rfl, rfl, rfl, rfl, rfl, rfl, rfl, trivial⟩ (by (exact Ent.auto)) ?_
    rintro i ⟨hi, hsum⟩
    by_cases hil : i < l.length
    · have hinq := hl.inner _ (getD_memQ hil)
      have hmq := getD_memQ hil
      have hgq := hg _ hmq
      have hes := take_snocQ hil
      have hrds : ∀ (W : World) (R : List Res), Rds W I2 R ((ad A).add (i * 2)) (eqC (l.getD i default)) := fun W R => hl.outer.rds hil
      have hqs : T ∈ solsOf n (eqns l) → sumC T (eqn (l.getD i default)).1 = (l.getD i default).2 := fun h => hssum T h _ (List.mem_map.2 ⟨_, hmq, rfl⟩)
      have hlq := good_len hgq
      generalize l.getD i default = q at hinq hgq hes hrds hqs hlq
      obtain ⟨⟨Ax, cx, ix⟩, z⟩ := q
      dsimp only at hinq hqs hlq
      replace hrds : ∀ (W : World) (R : List Res), Rds W I2 R ((ad A).add (i * 2)) [.slice Ax ix.length cx, .int .i64 z] := hrds
      repeat' first
        | ((with_reducible refine Nx.is_wp ?_); first | refine Nx.wo ?_ | refine Nx.zp (fun hc => ?_) (fun hc => ?_))
        | (refine Nx.zo ?_; first | refine Nx.opr rfl rfl ?_ | refine Nx.indexAddr_nat rfl rfl rfl rfl rfl hil (hl.outer.isSome (by omega) (by omega)) ?_ | refine Nx.loads rfl rfl rfl rfl (hrds _ _) rfl ?_ | refine Nx.so ?_ | refine Nx.sb (fun bx => ?_) | refine Nx.sa (fun A2 c2 => ?_))
        | ((with_reducible refine Nx.is_at ?_); first | refine Nx.a ?_ | refine Nx.zd ?_ | refine Nx.zs (fun hc => ?_) (fun hc => ?_))
        | ((with_reducible refine Nx.is_mix ?_); first | refine Nx.m ?_ | refine Nx.zm ?_ | refine Nx.zt (fun hc => ?_) (fun hc => ?_))
        | refine Nx.zx ?_ | fail
      revert bx; intro b10
      refine Nx.p_loop (σ := Nat) (fun j => [(0, .int .i64 (n : Int)), (1, .slice A l.length c), (5, .slice (some ⟨bs, 0, none⟩) n n), (6, .bool fd), (7, .pointer (some ⟨b, 0, none⟩)), (28, .slice A l.length c), (29, .int .i64 l.length), (30, .int .i64 (i : Int)), (10, .pointer (some ⟨b10, 0, none⟩)), (11, .int .i64 (sumC T ((ix.take j).map Int.toNat))), (35, .slice Ax ix.length cx), (36, .int .i64 ix.length), (37, .int .i64 (j : Int))])
        (fun _ => [Blk b10 140 [.slice Ax ix.length cx, .int .i64 z], digR b At As ct cs bt n U rs, tabR bt n T, seenA bs n st, Stars (st.map seenR), F]) (fun j => j ≤ ix.length) (fun j => ix.length - j) 0 rfl (Nat.zero_le _) ⟨rfl, rfl, rfl, rfl, rfl, rfl, rfl, rfl, rfl, rfl, rfl, rfl, rfl, trivial⟩ (by (exact Ent.auto)) ?_
      intro j hj
      have hj : j ≤ ix.length := hj
      have hsb := sumC_bd (M := 1000000) (by omega) hTb ((ix.take j).map Int.toNat)
      rw [List.length_map, List.length_take, Nat.min_eq_left hj] at hsb
      by_cases hjl : j < ix.length
      · have hxl := hgq.lt (ix.getD j default) (getD_memI hjl)
        have hts := take_snocJ hjl
        have hxr : ∀ (W : World) (R : List Res), Rd W I2 R ((ad Ax).add (j * 1)) (.int .i64 (ix.getD j default)) := fun W R => hinq.rd hjl
        generalize ix.getD j default = x at hxl hts hxr
        obtain ⟨y, rfl⟩ : ∃ y : Nat, x = y := ⟨x.toNat, by omega⟩
        have hyn : y < n := by omega
        have hss : sumC T ((ix.take (j + 1)).map Int.toNat) = sumC T ((ix.take j).map Int.toNat) + T.getD y 0 := by
          rw [hts, List.map_append, sumC_appC]
          show _ + (T.getD (y : Int).toNat 0 + 0) = _
          rw [Int.toNat_natCast]; omega
        have hTy := hTb y
        have hrv : ∀ (W : World) (R : List Res) (r0 r1 : Res), Rd W I2 (r0 :: r1 :: tabR bt n T :: R) ((ad (some ⟨bt, 0, none⟩)).add (y * 1)) (.int .i64 (T.getD y 0)) := fun W R r0 r1 => Rd.vecAt 2 rfl (by omega) rfl
        generalize sumC T ((ix.take j).map Int.toNat) = sm at hsb hss
        generalize T.getD y 0 = v at hTy hrv hss
        repeat' first
          | ((with_reducible refine Nx.is_wp ?_); first | refine Nx.wo ?_ | refine Nx.zp (fun hc => ?_) (fun hc => ?_))
          | (refine Nx.zo ?_; first | refine Nx.opr rfl rfl ?_ | refine Nx.indexAddr_nat (A := Ax) (i := j) (sz := 1) rfl rfl rfl rfl rfl hjl (hinq.isSome (by omega)) ?_ | refine Nx.load rfl rfl rfl (hxr _ _) ?_ | refine Nx.indexAddr_nat (A := some ⟨bt, 0, none⟩) (i := y) (sz := 1) rfl rfl rfl rfl rfl hyn rfl ?_ | refine Nx.load rfl rfl rfl (hrv _ _ _ _) ?_ | refine Nx.so ?_ | refine Nx.sb (fun bx => ?_) | refine Nx.sa (fun A2 c2 => ?_))
          | ((with_reducible refine Nx.is_at ?_); first | refine Nx.a ?_ | refine Nx.zd ?_ | refine Nx.zs (fun hc => ?_) (fun hc => ?_))
          | ((with_reducible refine Nx.is_mix ?_); first | refine Nx.m ?_ | refine Nx.zm ?_ | refine Nx.zt (fun hc => ?_) (fun hc => ?_))
          | refine Nx.zx ?_ | fail
        exact Nx.again (j + 1) hjl (by omega) ⟨rfl, rfl, rfl, rfl, rfl, rfl, rfl, rfl, rfl, by rw [hss]; rfl, rfl, rfl, rfl, trivial⟩ (by (exact Ent.auto))
      obtain rfl : j = ix.length := by omega
      rw [List.take_length] at hsb ⊢
      replace hqs : T ∈ solsOf n (eqns l) → sumC T (ix.map Int.toNat) = z := hqs
      have hone : sumC T (eqn ((Ax, cx, ix), z)).1 = sumC T (ix.map Int.toNat) := rfl
      generalize sumC T (ix.map Int.toNat) = sm at hsb hqs hone
      by_cases hsz : sm = z
      · repeat' first
          | ((with_reducible refine Nx.is_wp ?_); first | refine Nx.wo ?_ | refine Nx.zp (fun hc => ?_) (fun hc => ?_))
          | (refine Nx.zo ?_; first | refine Nx.opr rfl rfl ?_ | refine Nx.so ?_ | refine Nx.sb (fun bx => ?_) | refine Nx.sa (fun A2 c2 => ?_))
          | ((with_reducible refine Nx.is_at ?_); first | refine Nx.a ?_ | refine Nx.zd ?_ | refine Nx.zs (fun hc => ?_) (fun hc => ?_))
          | ((with_reducible refine Nx.is_mix ?_); first | refine Nx.m ?_ | refine Nx.zm ?_ | refine Nx.zt (fun hc => ?_) (fun hc => ?_))
          | refine Nx.zx ?_ | fail
        refine Nx.again (i + 1) ⟨hil, fun q hq => ?_⟩ (by omega) ⟨rfl, rfl, rfl, rfl, rfl, rfl, rfl, rfl, trivial⟩ (by (exact Ent.auto))
        rw [hes] at hq
        rcases List.mem_append.1 hq with hq | hq
        · exact hsum q hq
        · rw [List.mem_singleton.1 hq, hone]; exact hsz
      · have hG' : GoodS n st fd (Vis n U rs (solsOf n (eqns l)) (numD rs D + 1)) := hG.congr fun t => (hvs t).trans ⟨fun h => h.elim id fun h => absurd (hqs (h.2 ▸ h.1)) hsz, .inl⟩
        repeat' first
          | ((with_reducible refine Nx.is_wp ?_); first | refine Nx.wo ?_ | refine Nx.zp (fun hc => ?_) (fun hc => ?_))
          | (refine Nx.zo ?_; first | refine Nx.opr rfl rfl ?_ | (refine Nx.call rfl rfl rfl (by kernel_rfl) rfl hnx (by unfold digR tabR; (exact Ent.auto)) ?_; rintro _ _ (⟨D', hn', rfl, rfl⟩ | ⟨hn', rfl, rfl⟩)) | refine Nx.so ?_ | refine Nx.sb (fun bx => ?_) | refine Nx.sa (fun A2 c2 => ?_))
          | ((with_reducible refine Nx.is_at ?_); first | refine Nx.a ?_ | refine Nx.zd ?_ | refine Nx.zs (fun hc => ?_) (fun hc => ?_))
          | ((with_reducible refine Nx.is_mix ?_); first | refine Nx.m ?_ | refine Nx.zm ?_ | refine Nx.zt (fun hc => ?_) (fun hc => ?_))
          | refine Nx.zx ?_ | fail
        · obtain ⟨h1, h2⟩ := hns D' hn'
          exact Nx.again (D', numD rs D + 1, true, fd, st) ⟨h1, hG', fun _ => h2.symm, fun h => (by cases h)⟩ (by dsimp only; omega) ⟨rfl, rfl, rfl, rfl, rfl, rfl, trivial⟩ (by (exact Ent.auto))
        · have h2 := hne hn'
          exact Nx.again (zerD D 0, prodD rs, false, fd, st) ⟨hz, by rw [show prodD rs = numD rs D + 1 by omega]; exact hG', fun h => (by cases h), fun _ => rfl⟩ (by dsimp only; omega) ⟨rfl, rfl, rfl, rfl, rfl, rfl, trivial⟩ (by (exact Ent.auto))
    obtain rfl : i = l.length := by omega
    rw [List.take_length] at hsum
    have hT := hTs fun q hq => by
      obtain ⟨x, hx, rfl⟩ := List.mem_map.1 hq
      exact hsum x hx
    have hGl := hG.len
    repeat' first
      | ((with_reducible refine Nx.is_wp ?_); first | refine Nx.wo ?_ | refine Nx.zp (fun hc => ?_) (fun hc => ?_))
      | (refine Nx.zo ?_; first | refine Nx.opr rfl rfl ?_ | refine Nx.so ?_ | refine Nx.sb (fun bx => ?_) | refine Nx.sa (fun A2 c2 => ?_))
      | ((with_reducible refine Nx.is_at ?_); first | refine Nx.a ?_ | refine Nx.zd ?_ | refine Nx.zs (fun hc => ?_) (fun hc => ?_))
      | ((with_reducible refine Nx.is_mix ?_); first | refine Nx.m ?_ | refine Nx.zm ?_ | refine Nx.zt (fun hc => ?_) (fun hc => ?_))
      | refine Nx.zx ?_ | fail
    refine Nx.p_loop (σ := Nat × List SeenE) (fun s => [(0, .int .i64 (n : Int)), (1, .slice A l.length c), (5, .slice (some ⟨bs, 0, none⟩) n n), (6, .bool true), (7, .pointer (some ⟨b, 0, none⟩)), (59, .slice (some ⟨bt, 0, none⟩) n n), (60, .int .i64 (n : Int)), (61, .int .i64 (s.1 : Int))])
      (fun s => [digR b At As ct cs bt n U rs, tabR bt n T, seenA bs n s.2, Stars (s.2.map seenR), F]) (fun s => s.1 ≤ n ∧ s.2.length = n ∧ ∀ j, j < n → CellOk (s.2.getD j default) (fun z => (j < s.1 ∧ z = T.getD j 0) ∨ ∃ t, Vis n U rs (solsOf n (eqns l)) (numD rs D) t ∧ t.getD j 0 = z)) (fun s => n - s.1) (0, st) rfl ⟨Nat.zero_le _, hGl, fun j hj => (hG.cell j hj).congr fun z => ⟨fun h => h.elim (fun h => absurd h.1 (Nat.not_lt_zero _)) id, .inr⟩⟩ ⟨rfl, rfl, rfl, rfl, rfl, rfl, rfl, rfl, trivial⟩ (by (exact Ent.auto)) ?_
    rintro ⟨k, sq⟩ ⟨hk, hsl, hcell⟩
    dsimp only at hk hsl hcell ⊢
    by_cases hkn : k < n
    case neg =>
      obtain rfl : k = n := by omega
      have hG' : GoodS k sq true (Vis k U rs (solsOf k (eqns l)) (numD rs D + 1)) := ⟨hsl, fun j hj => (hcell j hj).congr fun z => ⟨fun ⟨t, h1, h2⟩ => ((hvs t).1 h1).elim (fun h => .inr ⟨t, h, h2⟩) (fun h => .inl ⟨hj, by rw [← h2, h.2]⟩), fun h => h.elim (fun h => ⟨T, (hvs T).2 (.inr ⟨hT, rfl⟩), h.2.symm⟩) fun ⟨t, h1, h2⟩ => ⟨t, (hvs t).2 (.inl h1), h2⟩⟩, ⟨fun _ => ⟨T, (hvs T).2 (.inr ⟨hT, rfl⟩)⟩, fun _ => rfl⟩⟩
      repeat' first
        | ((with_reducible refine Nx.is_wp ?_); first | refine Nx.wo ?_ | refine Nx.zp (fun hc => ?_) (fun hc => ?_))
        | (refine Nx.zo ?_; first | refine Nx.opr rfl rfl ?_ | (refine Nx.call rfl rfl rfl (by kernel_rfl) rfl hnx (by unfold digR tabR; (exact Ent.auto)) ?_; rintro _ _ (⟨D', hn', rfl, rfl⟩ | ⟨hn', rfl, rfl⟩)) | refine Nx.so ?_ | refine Nx.sb (fun bx => ?_) | refine Nx.sa (fun A2 c2 => ?_))
        | ((with_reducible refine Nx.is_at ?_); first | refine Nx.a ?_ | refine Nx.zd ?_ | refine Nx.zs (fun hc => ?_) (fun hc => ?_))
        | ((with_reducible refine Nx.is_mix ?_); first | refine Nx.m ?_ | refine Nx.zm ?_ | refine Nx.zt (fun hc => ?_) (fun hc => ?_))
        | refine Nx.zx ?_ | fail
      · obtain ⟨h1, h2⟩ := hns D' hn'
        exact Nx.again (D', numD rs D + 1, true, true, sq) ⟨h1, hG', fun _ => h2.symm, fun h => (by cases h)⟩ (by dsimp only; omega) ⟨rfl, rfl, rfl, rfl, rfl, rfl, trivial⟩ (by (exact Ent.auto))
      · have h2 := hne hn'
        exact Nx.again (zerD D 0, prodD rs, false, true, sq) ⟨hz, by rw [show prodD rs = numD rs D + 1 by omega]; exact hG', fun h => (by cases h), fun _ => rfl⟩ (by dsimp only; omega) ⟨rfl, rfl, rfl, rfl, rfl, rfl, trivial⟩ (by (exact Ent.auto))
    have hck := hcell k hkn
    have hnew : ∀ z, ((k < k + 1 ∧ z = T.getD k 0) ∨ ∃ t, Vis n U rs (solsOf n (eqns l)) (numD rs D) t ∧ t.getD k 0 = z) ↔ z = T.getD k 0 ∨ ((k < k ∧ z = T.getD k 0) ∨ ∃ t, Vis n U rs (solsOf n (eqns l)) (numD rs D) t ∧ t.getD k 0 = z) := fun z => ⟨fun h => h.elim (fun h => .inl h.2) fun h => .inr (.inr h), fun h => h.elim (fun h => .inl ⟨Nat.lt_succ_self k, h⟩) fun h => h.elim (fun h => absurd h.1 (Nat.lt_irrefl k)) .inr⟩
    have hold : ∀ (x : SeenE), CellOk x (fun z => (k < k + 1 ∧ z = T.getD k 0) ∨ ∃ t, Vis n U rs (solsOf n (eqns l)) (numD rs D) t ∧ t.getD k 0 = z) → ∀ j, j < n → CellOk ((sq.set k x).getD j default) (fun z => (j < k + 1 ∧ z = T.getD j 0) ∨ ∃ t, Vis n U rs (solsOf n (eqns l)) (numD rs D) t ∧ t.getD j 0 = z) := fun x hx j hj => by
      by_cases hjk : j = k
      · subst hjk
        rw [List.getD_eq_getElem?_getD, List.getElem?_set_self (by omega)]
        exact hx
      · rw [List.getD_eq_getElem?_getD, List.getElem?_set_ne (Ne.symm hjk), ← List.getD_eq_getElem?_getD]
        exact (hcell j hj).congr fun z => ⟨fun h => h.elim (fun h => .inl ⟨by omega, h.2⟩) .inr, fun h => h.elim (fun h => .inl ⟨by omega, h.2⟩) .inr⟩
    cases hsk : sq.getD k default with
    | none =>
      rw [hsk] at hck
      have hfr := fun bm => hold _ (hck.fresh bm hnew)
      have htr : ∀ (W : World) (R : List Res) (r0 : Res), Rd W I2 (r0 :: tabR bt n T :: R) ((ad (some ⟨bt, 0, none⟩)).add (k * 1)) (.int .i64 (T.getD k 0)) := fun W R r0 => Rd.vecAt 1 rfl (by omega) rfl
      have hsr0 : ∀ (W : World) (R : List Res) (r0 r1 : Res), Rd W I2 (r0 :: r1 :: seenA bs n sq :: R) ((ad (some ⟨bs, 0, none⟩)).add (k * 1)) (.map none) := fun W R r0 r1 => by
        have h := Rd.vecEl (W := W) (I := I2) (R := r0 :: r1 :: seenA bs n sq :: R) 2 (f := seenV) (l := sq) (i := k) rfl (by omega)
        rw [hsk] at h
        exact h
      have hsr1 : ∀ (bm : Nat) (W : World) (R : List Res), Rd W I2 (seenA bs n (sq.set k (some (bm, []))) :: R) ((ad (some ⟨bs, 0, none⟩)).add (k * 1)) (.map (some bm)) := fun bm W R => by
        have h := Rd.vecEl (W := W) (I := I2) (R := seenA bs n (sq.set k (some (bm, []))) :: R) 0 (f := seenV) (l := sq.set k (some (bm, []))) (i := k) rfl (by rw [List.length_set]; omega)
        rw [show (sq.set k (some (bm, []))).getD k default = some (bm, []) by rw [List.getD_eq_getElem?_getD, List.getElem?_set_self (by omega)]; rfl] at h
        exact h
      generalize T.getD k 0 = v at htr hfr
      repeat' first
        | ((with_reducible refine Nx.is_wp ?_); first | refine Nx.wo ?_ | refine Nx.zp (fun hc => ?_) (fun hc => ?_))
        | (refine Nx.zo ?_; first | refine Nx.opr rfl rfl ?_ | refine Nx.indexAddr_nat (A := some ⟨bt, 0, none⟩) (i := k) (sz := 1) rfl rfl rfl rfl rfl hkn rfl ?_ | refine Nx.load rfl rfl rfl (htr _ _ _) ?_ | refine Nx.indexAddr_nat (A := some ⟨bs, 0, none⟩) (i := k) (sz := 1) rfl rfl rfl rfl rfl hkn rfl ?_ | refine Nx.load rfl rfl rfl (hsr0 _ _ _ _) ?_ | refine Nx.makeMapS (Value.int .i64) (fun _ : Unit => Value.bool true) rfl (fun bm => ?_) | refine Nx.store_of 3 seenV (A := some ⟨bs, 0, none⟩) (i := k) (l := sq) (z := some (bm, [])) rfl rfl rfl rfl rfl rfl (by omega) ?_ | refine Nx.load rfl rfl rfl (hsr1 _ _ _) ?_ | refine Nx.mapSetS 1 (Value.int .i64) (fun _ : Unit => Value.bool true) (k := v) (v := ()) (.inr rfl) rfl rfl rfl (KeyEnc.int Tryz.underlying3) rfl rfl ?_ | refine Nx.so ?_ | refine Nx.sb (fun bx => ?_) | refine Nx.sa (fun A2 c2 => ?_))
        | ((with_reducible refine Nx.is_at ?_); first | refine Nx.a ?_ | refine Nx.zd ?_ | refine Nx.zs (fun hc => ?_) (fun hc => ?_))
        | ((with_reducible refine Nx.is_mix ?_); first | refine Nx.m ?_ | refine Nx.zm ?_ | refine Nx.zt (fun hc => ?_) (fun hc => ?_))
        | refine Nx.zx ?_ | fail
      refine Nx.again (k + 1, sq.set k (some (bm, mset [] v ()))) ⟨hkn, by dsimp only; rw [List.length_set]; exact hsl, hfr bm⟩ (by dsimp only; omega) ⟨rfl, rfl, rfl, rfl, rfl, rfl, rfl, rfl, trivial⟩ ?_
      dsimp only
      refine Ent.trans (R' := mapB bm (mset [] v ()) :: Stars (sq.map seenR) :: [digR b At As ct cs bt n U rs, tabR bt n T, Vec 143 1 (some ⟨bs, 0, none⟩) n n ((sq.set k (some (bm, []))).map seenV), F]) (by (exact Ent.auto)) ((seen_put (k := k) (by omega)).trans ?_)
      rw [show (sq.set k (some (bm, []))).map seenV = (sq.set k (some (bm, mset [] v ()))).map seenV by rw [List.map_set, List.map_set]; rfl]
      (exact Ent.auto)
    | some p =>
      obtain ⟨bk, ps⟩ := p
      rw [hsk] at hck
      have hfr := hold _ (hck.more hnew)
      have htr : ∀ (W : World) (R : List Res) (r0 r1 : Res), Rd W I2 (r0 :: r1 :: tabR bt n T :: R) ((ad (some ⟨bt, 0, none⟩)).add (k * 1)) (.int .i64 (T.getD k 0)) := fun W R r0 r1 => Rd.vecAt 2 rfl (by omega) rfl
      have hsr : ∀ (W : World) (R : List Res) (r0 r1 r2 : Res), Rd W I2 (r0 :: r1 :: r2 :: seenA bs n sq :: R) ((ad (some ⟨bs, 0, none⟩)).add (k * 1)) (.map (some bk)) := fun W R r0 r1 r2 => by
        have h := Rd.vecEl (W := W) (I := I2) (R := r0 :: r1 :: r2 :: seenA bs n sq :: R) 3 (f := seenV) (l := sq) (i := k) rfl (by omega)
        rw [hsk] at h
        exact h
      have hsv := fun l' => seenV_set (l' := l') (by omega : k < sq.length) hsk
      have hgt := seen_get (st := sq) (k := k) (by omega)
      rw [hsk] at hgt
      generalize T.getD k 0 = v at htr hfr
      refine Nx.ent (R' := [mapB bk ps, digR b At As ct cs bt n U rs, tabR bt n T, seenA bs n sq, Stars ((sq.map seenR).eraseIdx k), F]) (Ent.trans (R' := [Stars (sq.map seenR), digR b At As ct cs bt n U rs, tabR bt n T, seenA bs n sq, F]) (by (exact Ent.auto)) ((Ent.takeOut k hgt).trans (by unfold mapB seenR; (exact Ent.auto)))) ?_
      repeat' first
        | ((with_reducible refine Nx.is_wp ?_); first | refine Nx.wo ?_ | refine Nx.zp (fun hc => ?_) (fun hc => ?_))
        | (refine Nx.zo ?_; first | refine Nx.opr rfl rfl ?_ | refine Nx.indexAddr_nat (A := some ⟨bt, 0, none⟩) (i := k) (sz := 1) rfl rfl rfl rfl rfl hkn rfl ?_ | refine Nx.load rfl rfl rfl (htr _ _ _ _) ?_ | refine Nx.indexAddr_nat (A := some ⟨bs, 0, none⟩) (i := k) (sz := 1) rfl rfl rfl rfl rfl hkn rfl ?_ | refine Nx.load rfl rfl rfl (hsr _ _ _ _ _) ?_ | refine Nx.mapSetS 0 (Value.int .i64) (fun _ : Unit => Value.bool true) (k := v) (v := ()) (.inr rfl) rfl rfl rfl (KeyEnc.int Tryz.underlying3) rfl rfl ?_ | refine Nx.so ?_ | refine Nx.sb (fun bx => ?_) | refine Nx.sa (fun A2 c2 => ?_))
        | ((with_reducible refine Nx.is_at ?_); first | refine Nx.a ?_ | refine Nx.zd ?_ | refine Nx.zs (fun hc => ?_) (fun hc => ?_))
        | ((with_reducible refine Nx.is_mix ?_); first | refine Nx.m ?_ | refine Nx.zm ?_ | refine Nx.zt (fun hc => ?_) (fun hc => ?_))
        | refine Nx.zx ?_ | fail
      refine Nx.again (k + 1, sq.set k (some (bk, mset ps v ()))) ⟨hkn, by dsimp only; rw [List.length_set]; exact hsl, hfr⟩ (by dsimp only; omega) ⟨rfl, rfl, rfl, rfl, rfl, rfl, rfl, rfl, trivial⟩ ?_
      dsimp only
      refine Ent.trans (R' := mapB bk (mset ps v ()) :: Stars ((sq.map seenR).eraseIdx k) :: [digR b At As ct cs bt n U rs, tabR bt n T, Vec 143 1 (some ⟨bs, 0, none⟩) n n (sq.map seenV), F]) (by (exact Ent.auto)) ((seen_back (k := k) (by omega)).trans ?_)
      rw [← hsv (mset ps v ())]
      (exact Ent.auto)
end Go.Proofs.YtjnhoemgceghlaaGreat
/- Contracts of functions of the given program, and lemmas about plain lists and numbers: what the laws of this seat lean on. -/
namespace Go.Proofs.YtjnhoemgceghlaaGreat
open Go.Eng Go.Sol
attribute [local irreducible] opK wpList Code.wp Exit.then Exit.inBlock fnPost bodyPost Nx Calls Oper.wp Rd Rds Wr Ent Stars Blk Again Vec FnSpec wpMix QRun Stop Upto wpAt
/-! What somebody who tries all tables finds: told, certain, Certain, Values -/
def tolE (l : List Int) (rs : List Rel) : Int := if relsE l rs = 0 then chkQ (prod l) (qsOf l rs) else relsE l rs
theorem first_err (n : Int) (l : List EqR) : (firstOf n l).2.2 = chkQ n l := by
  unfold firstOf
  split
  · rename_i h; exact h.symm
  · rfl
theorem tolE_ok {l : List Int} {rs : List Rel} (h : tolE l rs = 0) : relsE l rs = 0 ∧ chkQ (prod l) (qsOf l rs) = 0 := by
  unfold tolE at h
  split at h
  · rename_i h0; exact ⟨h0, h⟩
  · rename_i h0; exact absurd h h0
def ToldPost (l : List Int) (rs : List Rel) (v : Value) (R' : List Res) : Prop :=
  ∃ (Am : Option Addr) (cm : Nat) (qs : List EqR), v = .tuple #[.slice Am qs.length cm, .int .i64 (if tolE l rs = 0 then prod l else 0), .int .i64 (tolE l rs)] ∧ (tolE l rs = 0 → qs.map cont = rs.flatMap (told l)) ∧ (tolE l rs ≠ 0 → qs = []) ∧ R' = eqsR Am cm qs
theorem nil_eqs {R : List Res} : Ent R (eqsR none 0 [] ++ R) := (Ent.stars_nil _).trans (Ent.vec_nil 140 2 _)
set_option maxRecDepth 10000 in
set_option maxHeartbeats 16000000 in
theorem atold_spec (A As : Option Addr) (c cs : Nat) (l : List Int) (rs : List Rel) (I : PH) (hl : Ints I A c l) (hs : Sizes l) (hr : Rels I As cs rs) (hw : ∀ r ∈ rs, Viewed l r.v) :
    FnSpec Tryz.prog 42 [.agg #[.slice A l.length c], .slice As rs.length cs] I [] (ToldPost l rs) := by
  have hA := EAll_spec A As c cs l rs I hl hs hr hw
  have hiff := relsE_iff hs hw
  refine FnSpec.enterP Tryz.func42 rfl Tryz.ntmps42 rfl fun w F => ?_
  unfold ToldPost tolE
  by_cases h0 : relsE l rs = 0
  case neg =>
    rw [if_neg h0, if_neg h0]
    generalize relsE l rs = er at h0 hA
    repeat' first
      | ((with_reducible refine Nx.is_wp ?_); first | refine Nx.wo ?_ | refine Nx.zp (fun hc => ?_) (fun hc => ?_))
      | (refine Nx.zo ?_; first | refine Nx.opr rfl rfl ?_ | (refine Nx.call (Rpre := []) rfl rfl rfl (by kernel_rfl) rfl hA (Ent.refl _) ?_; rintro _ _ ⟨Am, cm, qs, rfl, hqs, hql, rfl⟩) | refine Nx.so ?_ | refine Nx.sb (fun bx => ?_) | refine Nx.sa (fun A2 c2 => ?_))
      | ((with_reducible refine Nx.is_at ?_); first | refine Nx.a ?_ | refine Nx.zd ?_ | refine Nx.zs (fun hc => ?_) (fun hc => ?_))
      | ((with_reducible refine Nx.is_mix ?_); first | refine Nx.m ?_ | refine Nx.zm ?_ | refine Nx.zt (fun hc => ?_) (fun hc => ?_))
      | refine Nx.zx ?_ | fail
    exact Nx.ret_fn rfl _ ⟨none, 0, [], rfl, fun h => absurd h h0, fun _ => rfl, rfl⟩ (nil_eqs.trans (by (exact Ent.auto)))
  have hV := hiff.1 h0
  rw [if_pos h0] at hA
  rw [if_pos h0]
  rw [h0] at hA
  repeat' first
    | ((with_reducible refine Nx.is_wp ?_); first | refine Nx.p_stopr 4 rfl ?_ | refine Nx.wo ?_ | refine Nx.zp (fun hc => ?_) (fun hc => ?_))
    | (refine Nx.zo ?_; first | refine Nx.opr rfl rfl ?_ | (refine Nx.call (Rpre := []) rfl rfl rfl (by kernel_rfl) rfl hA (Ent.refl _) ?_; rintro _ _ ⟨Am, cm, qs, rfl, hqs, hql, rfl⟩) | refine Nx.so ?_ | refine Nx.sb (fun bx => ?_) | refine Nx.sa (fun A2 c2 => ?_))
    | ((with_reducible refine Nx.is_at ?_); first | refine Nx.a ?_ | refine Nx.zd ?_ | refine Nx.zs (fun hc => ?_) (fun hc => ?_))
    | ((with_reducible refine Nx.is_mix ?_); first | refine Nx.m ?_ | refine Nx.zm ?_ | refine Nx.zt (fun hc => ?_) (fun hc => ?_))
    | refine Nx.zx ?_ | fail
  refine Nx.unstop ?_
  have hF := fun (m I' : PH) (hle : PH.le I I') (hm : PH.le m I') (hv : Stars (eqsR Am cm qs) m) => (by
    obtain ⟨a0, ha0, b0⟩ := Stars.get 0 hv rfl
    obtain ⟨a1, ha1, b1⟩ := Stars.get 1 hv rfl
    exact First_spec (prod l) Am cm qs I' (eqs_of hm b0 ha0 b1 ha1) (allC_told hs hV hqs) : FnSpec Tryz.prog 68 [.int .i64 (prod l), .slice Am qs.length cm] I' [] (fun v R' => ∃ (A' : Option Addr) (c' : Nat), v = .tuple #[.slice A' (firstOf (prod l) qs).1.length c', .bool (firstOf (prod l) qs).2.1, .int .i64 (firstOf (prod l) qs).2.2] ∧ R' = [iR A' c' (firstOf (prod l) qs).1]))
  rw [first_err, cont_chk hqs] at hF
  have hqe : qsOf l rs = (rs.flatMap (told l)).map canonE := rfl
  rw [← hqe] at hF
  generalize chkQ (prod l) (qsOf l rs) = ck at hF
  by_cases hc : ck = 0
  · subst hc
    rw [if_pos rfl]
    repeat' first
      | ((with_reducible refine Nx.is_wp ?_); first | refine Nx.wo ?_ | refine Nx.zp (fun hc => ?_) (fun hc => ?_))
      | (refine Nx.zo ?_; first | refine Nx.opr rfl rfl ?_ | refine Nx.callv rfl rfl rfl (by kernel_rfl) rfl (Count_spec A c l _ hl hs) ?_ | (refine Nx.call rfl rfl rfl (by kernel_rfl) rfl (FnSpec.keep (eqsR Am cm qs) hF) (by (exact Ent.auto)) ?_; rintro _ _ ⟨_, ⟨A', c', rfl, rfl⟩, rfl⟩) | refine Nx.so ?_ | refine Nx.sb (fun bx => ?_) | refine Nx.sa (fun A2 c2 => ?_))
      | ((with_reducible refine Nx.is_at ?_); first | refine Nx.a ?_ | refine Nx.zd ?_ | refine Nx.zs (fun hc => ?_) (fun hc => ?_))
      | ((with_reducible refine Nx.is_mix ?_); first | refine Nx.m ?_ | refine Nx.zm ?_ | refine Nx.zt (fun hc => ?_) (fun hc => ?_))
      | refine Nx.zx ?_ | fail
    exact Nx.ret_fn rfl _ ⟨Am, cm, qs, rfl, fun _ => hqs, fun h => absurd rfl h, rfl⟩ (by (exact Ent.auto))
  · rw [if_neg hc]
    repeat' first
      | ((with_reducible refine Nx.is_wp ?_); first | refine Nx.wo ?_ | refine Nx.zp (fun hc => ?_) (fun hc => ?_))
      | (refine Nx.zo ?_; first | refine Nx.opr rfl rfl ?_ | refine Nx.callv rfl rfl rfl (by kernel_rfl) rfl (Count_spec A c l _ hl hs) ?_ | (refine Nx.call rfl rfl rfl (by kernel_rfl) rfl (FnSpec.keep (eqsR Am cm qs) hF) (by (exact Ent.auto)) ?_; rintro _ _ ⟨_, ⟨A', c', rfl, rfl⟩, rfl⟩) | refine Nx.so ?_ | refine Nx.sb (fun bx => ?_) | refine Nx.sa (fun A2 c2 => ?_))
      | ((with_reducible refine Nx.is_at ?_); first | refine Nx.a ?_ | refine Nx.zd ?_ | refine Nx.zs (fun hc => ?_) (fun hc => ?_))
      | ((with_reducible refine Nx.is_mix ?_); first | refine Nx.m ?_ | refine Nx.zm ?_ | refine Nx.zt (fun hc => ?_) (fun hc => ?_))
      | refine Nx.zx ?_ | fail
    exact Nx.ret_fn rfl _ ⟨none, 0, [], rfl, fun h => absurd h hc, fun _ => rfl, rfl⟩ (nil_eqs.trans (by (exact Ent.auto)))
theorem rows_vals {n : Nat} {f : Nat → List Int} {o : List Row} (h : o.map (·.2.2) = (List.range n).map f) : o.length = n ∧ ∀ k, k < n → (o.getD k default).2.2 = f k := by
  have hl : o.length = n := by have := congrArg List.length h; simpa using this
  refine ⟨hl, fun k hk => ?_⟩
  have := congrArg (·[k]?) h
  simp only [List.getElem?_map, List.getElem?_range hk, List.getElem?_eq_getElem (show k < o.length by omega), Option.map_some, Option.some.injEq] at this
  rw [List.getD_eq_getElem?_getD, List.getElem?_eq_getElem (show k < o.length by omega)]
  exact this
def certU (n : Nat) (L : List Eqn) (U : List Nat) : List Int := natI (U.filter fun k => decide ((valsOf n L k).length = 1))
def certL (n : Nat) (L : List Eqn) : List Int := certU n L (touch n L)
def certF (n : Nat) (L : List Eqn) : List Int × Int := if solsOf n L = [] then ([], 52) else (certL n L, 0)
theorem certU_snoc {n : Nat} {L : List Eqn} {U : List Nat} {k : Nat} (hk : k < U.length) : certU n L (U.take (k + 1)) = certU n L (U.take k) ++ if (valsOf n L (U.getD k 0)).length = 1 then [((U.getD k 0 : Nat) : Int)] else [] := by
  unfold certU natI
  rw [List.take_succ_eq_append_getElem hk, List.filter_append, List.map_append, List.getD_eq_getElem?_getD, List.getElem?_eq_getElem hk]
  congr 1
  show List.map Int.ofNat (List.filter _ [U[k]]) = _
  by_cases h : (valsOf n L U[k]).length = 1
  · rw [if_pos (by exact h), List.filter_cons_of_pos (by exact decide_eq_true h)]; rfl
  · rw [if_neg (by exact h), List.filter_cons_of_neg (by rw [decide_eq_true_eq]; exact h)]; rfl
theorem certU_len {n : Nat} {L : List Eqn} (U : List Nat) : (certU n L U).length ≤ U.length := by unfold certU natI; rw [List.length_map]; exact List.length_filter_le _ _
set_option maxRecDepth 10000 in
set_option maxHeartbeats 16000000 in
theorem certain_spec (A : Option Addr) (c : Nat) (l : List EqR) (n : Nat) (I : PH) (hl : Eqs I A c l) (hg : ∀ q ∈ l, GoodE n q) (hn1 : 1 ≤ n) (hn : n ≤ 4096) (h9 : (allC l).length ≤ 1000000) :
    FnSpec Tryz.prog 43 [.int .i64 (n : Int), .slice A l.length c] I [] (fun u R' => ∃ (A' : Option Addr) (c' : Nat), u = .tuple #[.slice A' (certF n (eqns l)).1.length c', .int .i64 (certF n (eqns l)).2] ∧ R' = [iR A' c' (certF n (eqns l)).1]) := by
  have hV := values_spec A c l n I hl hg hn1 hn h9
  unfold ValsPost at hV
  have hlen := hl.len
  refine FnSpec.enterP Tryz.func43 rfl Tryz.ntmps43 rfl fun w F => ?_
  unfold certF
  by_cases hS : solsOf n (eqns l) = []
  · rw [if_pos hS] at hV ⊢
    repeat' first
      | ((with_reducible refine Nx.is_wp ?_); first | refine Nx.wo ?_ | refine Nx.zp (fun hc => ?_) (fun hc => ?_))
      | (refine Nx.zo ?_; first | refine Nx.opr rfl rfl ?_ | (refine Nx.call (Rpre := []) rfl rfl rfl (by kernel_rfl) rfl hV (Ent.refl _) ?_; rintro _ _ ⟨Av, cv, o, ho, rfl, rfl⟩; obtain rfl : o = [] := List.map_eq_nil_iff.1 ho) | refine Nx.so ?_ | refine Nx.sb (fun bx => ?_) | refine Nx.sa (fun A2 c2 => ?_))
      | ((with_reducible refine Nx.is_at ?_); first | refine Nx.a ?_ | refine Nx.zd ?_ | refine Nx.zs (fun hc => ?_) (fun hc => ?_))
      | ((with_reducible refine Nx.is_mix ?_); first | refine Nx.m ?_ | refine Nx.zm ?_ | refine Nx.zt (fun hc => ?_) (fun hc => ?_))
      | refine Nx.zx ?_ | fail
    exact Nx.ret_fn rfl [_] ⟨none, 0, rfl, rfl⟩ ((Ent.vec_nil 3 1 _).trans (by (exact Ent.auto)))
  rw [if_neg hS] at hV ⊢
  repeat' first
    | ((with_reducible refine Nx.is_wp ?_); first | refine Nx.p_stopr 4 rfl ?_ | refine Nx.wo ?_ | refine Nx.zp (fun hc => ?_) (fun hc => ?_))
    | (refine Nx.zo ?_; first | refine Nx.opr rfl rfl ?_ | (refine Nx.call (Rpre := []) rfl rfl rfl (by kernel_rfl) rfl hV (Ent.refl _) ?_; rintro _ _ ⟨Av, cv, o, ho, rfl, rfl⟩; obtain ⟨hol, hov⟩ := rows_vals ho) | refine Nx.so ?_ | refine Nx.sb (fun bx => ?_) | refine Nx.sa (fun A2 c2 => ?_))
    | ((with_reducible refine Nx.is_at ?_); first | refine Nx.a ?_ | refine Nx.zd ?_ | refine Nx.zs (fun hc => ?_) (fun hc => ?_))
    | ((with_reducible refine Nx.is_mix ?_); first | refine Nx.m ?_ | refine Nx.zm ?_ | refine Nx.zt (fun hc => ?_) (fun hc => ?_))
    | refine Nx.zx ?_ | fail
  refine Nx.unstop ?_
  refine Nx.giveRows (A := Av) (c := cv) (o := o) (RR := [F]) (Ent.stars) fun I1 hI1 hro => ?_
  have hT := Touched_spec A c l n I1 (hl.mono hI1) hg h9
  have hmem := fun k (hk : k < (touch n (eqns l)).length) => (mem_touch.1 (idx_at (touch_nd n (eqns l)) hk).1).1
  have hul : (touch n (eqns l)).length ≤ n := touch_len n (eqns l)
  unfold certL
  generalize touch n (eqns l) = U at hT hmem hul
  repeat' first
    | ((with_reducible refine Nx.is_wp ?_); first | refine Nx.wo ?_ | refine Nx.zp (fun hc => ?_) (fun hc => ?_))
    | (refine Nx.zo ?_; first | refine Nx.opr rfl rfl ?_ | (refine Nx.call (Rpre := []) rfl rfl rfl (by kernel_rfl) rfl hT (Ent.refl _) ?_; rintro _ _ ⟨At, ct, rfl, rfl⟩) | refine Nx.so ?_ | refine Nx.sb (fun bx => ?_) | refine Nx.sa (fun A2 c2 => ?_))
    | ((with_reducible refine Nx.is_at ?_); first | refine Nx.a ?_ | refine Nx.zd ?_ | refine Nx.zs (fun hc => ?_) (fun hc => ?_))
    | ((with_reducible refine Nx.is_mix ?_); first | refine Nx.m ?_ | refine Nx.zm ?_ | refine Nx.zt (fun hc => ?_) (fun hc => ?_))
    | refine Nx.zx ?_ | fail
  refine Nx.p_loop (σ := Nat × Option Addr × Nat) (fun s => [(6, .slice Av o.length cv), (7, .slice s.2.1 (certU n (eqns l) (U.take s.1)).length s.2.2), (18, .slice At U.length ct), (19, .int .i64 U.length), (20, .int .i64 (s.1 : Int))])
    (fun s => [iR At ct (natI U), iR s.2.1 s.2.2 (certU n (eqns l) (U.take s.1)), F]) (fun s => s.1 ≤ U.length) (fun s => U.length - s.1) (0, none, 0) rfl (Nat.zero_le _) ⟨rfl, rfl, rfl, rfl, rfl, trivial⟩ ((Ent.vec_nil 3 1 _).trans (by (exact Ent.auto))) ?_
  rintro ⟨k, A1, c1⟩ hk
  dsimp only at hk ⊢
  by_cases hkl : k < U.length
  case neg =>
    rw [List.take_of_length_le (by omega)]
    repeat' first
      | ((with_reducible refine Nx.is_wp ?_); first | refine Nx.wo ?_ | refine Nx.zp (fun hc => ?_) (fun hc => ?_))
      | (refine Nx.zo ?_; first | refine Nx.opr rfl rfl ?_ | refine Nx.so ?_ | refine Nx.sb (fun bx => ?_) | refine Nx.sa (fun A2 c2 => ?_))
      | ((with_reducible refine Nx.is_at ?_); first | refine Nx.a ?_ | refine Nx.zd ?_ | refine Nx.zs (fun hc => ?_) (fun hc => ?_))
      | ((with_reducible refine Nx.is_mix ?_); first | refine Nx.m ?_ | refine Nx.zm ?_ | refine Nx.zt (fun hc => ?_) (fun hc => ?_))
      | refine Nx.zx ?_ | fail
    exact Nx.imm_le hI1 (Nx.ret_fn rfl [_] ⟨A1, c1, rfl, rfl⟩ (by (exact Ent.auto)))
  have hyn := hmem k hkl
  have hcr : ∀ (W : World) (R : List Res), Rd W I1 (iR At ct (natI U) :: R) ((ad At).add (k * 1)) (.int .i64 ((U.getD k 0 : Nat) : Int)) := fun W R => by
    have h := Rd.vecEl (W := W) (I := I1) (R := iR At ct (natI U) :: R) 0 (f := Value.int .i64) (l := natI U) (i := k) rfl (by rw [List.length_map]; exact hkl)
    rw [nat_at hkl] at h
    exact h
  have hsn := certU_snoc (n := n) (L := eqns l) hkl
  have hcl := certU_len (n := n) (L := eqns l) (U.take k)
  rw [List.length_take] at hcl
  generalize U.getD k 0 = y at hyn hcr hsn
  have hoy := hov y hyn
  have hrr : ∀ (W : World) (R : List Res), Rd W I1 R ((ad Av).add (y * 1)) (rowV (o.getD y default)) := fun W R => hro.outer.rd (by omega)
  generalize o.getD y default = rw' at hoy hrr
  obtain ⟨Ay, cy, row⟩ := rw'
  dsimp only at hoy
  replace hrr : ∀ (W : World) (R : List Res), Rd W I1 R ((ad Av).add (y * 1)) (.slice Ay row.length cy) := hrr
  subst hoy
  generalize valsOf n (eqns l) y = vy at hrr hsn
  generalize certU n (eqns l) (U.take k) = ac at hsn hcl ⊢
  refine Nx.vec_fact fun _ hv2 _ hAt => ?_
  rw [List.length_map] at hv2 hAt
  by_cases h1 : vy.length = 1
  · rw [if_pos h1] at hsn
    repeat' first
      | ((with_reducible refine Nx.is_wp ?_); first | refine Nx.wo ?_ | refine Nx.zp (fun hc => ?_) (fun hc => ?_))
      | (refine Nx.zo ?_; first | refine Nx.opr rfl rfl ?_ | refine Nx.indexAddr_nat (A := At) (i := k) (sz := 1) rfl rfl rfl rfl rfl hkl (hAt (by omega)) ?_ | refine Nx.load rfl rfl rfl (hcr _ _) ?_ | refine Nx.indexAddr_nat (A := Av) (i := y) (sz := 1) rfl rfl rfl rfl rfl (by omega) (hro.outer.isSome (by omega)) ?_ | refine Nx.load rfl rfl rfl (hrr _ _) ?_ | refine Nx.so ?_ | refine Nx.sb (fun bx => ?_) | refine Nx.sa (fun A2 c2 => ?_))
      | ((with_reducible refine Nx.is_at ?_); first | refine Nx.a ?_ | refine Nx.zd ?_ | refine Nx.zs (fun hc => ?_) (fun hc => ?_))
      | ((with_reducible refine Nx.is_mix ?_); first | refine Nx.m ?_ | refine Nx.zm ?_ | refine Nx.zt (fun hc => ?_) (fun hc => ?_))
      | refine Nx.zx ?_ | fail
    refine Nx.again (k + 1, A2, c2) hkl (by dsimp only; omega) ⟨rfl, by dsimp only; rw [hsn, List.length_append]; rfl, rfl, rfl, rfl, trivial⟩ ?_
    dsimp only
    rw [hsn]
    unfold iR
    rw [List.length_append (bs := [_]), List.length_singleton, List.map_append]
    (exact Ent.auto)
  · rw [if_neg h1, List.append_nil] at hsn
    repeat' first
      | ((with_reducible refine Nx.is_wp ?_); first | refine Nx.wo ?_ | refine Nx.zp (fun hc => ?_) (fun hc => ?_))
      | (refine Nx.zo ?_; first | refine Nx.opr rfl rfl ?_ | refine Nx.indexAddr_nat (A := At) (i := k) (sz := 1) rfl rfl rfl rfl rfl hkl (hAt (by omega)) ?_ | refine Nx.load rfl rfl rfl (hcr _ _) ?_ | refine Nx.indexAddr_nat (A := Av) (i := y) (sz := 1) rfl rfl rfl rfl rfl (by omega) (hro.outer.isSome (by omega)) ?_ | refine Nx.load rfl rfl rfl (hrr _ _) ?_ | refine Nx.so ?_ | refine Nx.sb (fun bx => ?_) | refine Nx.sa (fun A2 c2 => ?_))
      | ((with_reducible refine Nx.is_at ?_); first | refine Nx.a ?_ | refine Nx.zd ?_ | refine Nx.zs (fun hc => ?_) (fun hc => ?_))
      | ((with_reducible refine Nx.is_mix ?_); first | refine Nx.m ?_ | refine Nx.zm ?_ | refine Nx.zt (fun hc => ?_) (fun hc => ?_))
      | refine Nx.zx ?_ | fail
    exact Nx.again (k + 1, A1, c1) hkl (by dsimp only; omega) ⟨rfl, by dsimp only; rw [hsn]; rfl, rfl, rfl, rfl, trivial⟩ (by dsimp only; rw [hsn]; (exact Ent.auto))
end Go.Proofs.YtjnhoemgceghlaaGreat
/- Contracts of functions of the given program, and lemmas about plain lists and numbers: what the laws of this seat lean on. -/
namespace Go.Proofs.YtjnhoemgceghlaaGreat
open Go.Eng Go.Sol
attribute [local irreducible] opK wpList Code.wp Exit.then Exit.inBlock fnPost bodyPost Nx Calls Oper.wp Rd Rds Wr Ent Stars Blk Again Vec FnSpec wpMix QRun Stop Upto wpAt
/-! Certain, Values -/
def cerD (l : List Int) (rs : List Rel) : List Int × Int := if tolE l rs = 0 then certF (prod l).toNat (eqns (qsOf l rs)) else ([], tolE l rs)
theorem Nx.giveE {C : Cx} {e : Env} {I : PH} {R : List Res} {K : Act → World → Prop} {A : Option Addr} {c : Nat} {qs : List EqR} {RR : List Res}
    (hR : Ent R (eqsR A c qs ++ RR)) (h : ∀ I', PH.le I I' → Eqs I' A c qs → Nx C e I' RR K) : Nx C e I R K := by
  refine Nx.ent (hR.trans Ent.stars) ?_
  refine Nx.freezeAt 0 rfl fun I1 m1 hI1 hm1 h1 => ?_
  obtain ⟨a0, ha0, b0⟩ := Stars.get 0 h1 rfl
  obtain ⟨a1, ha1, b1⟩ := Stars.get 1 h1 rfl
  exact h I1 hI1 (eqs_of hm1 b0 ha0 b1 ha1)
/-- What is known of equations that releases tell. -/
structure ToldQ (l : List Int) (rs : List Rel) (qs : List EqR) : Prop where
  good : ∀ q ∈ qs, GoodE (prod l).toNat q
  all : (allC qs).length ≤ 100000
  eq : eqns qs = eqns (qsOf l rs)
theorem told_q {l : List Int} {rs : List Rel} {qs : List EqR} (hs : Sizes l) (hw : ∀ r ∈ rs, Viewed l r.v) (h0 : tolE l rs = 0) (h : qs.map cont = rs.flatMap (told l)) : ToldQ l rs qs := by
  have hV := (relsE_iff hs hw).1 (tolE_ok h0).1
  exact ⟨cont_good h (told_good hs hV), allC_told hs hV h, cont_eqns h⟩
set_option maxRecDepth 10000 in
set_option maxHeartbeats 8000000 in
theorem Certain_spec (A As : Option Addr) (c cs : Nat) (l : List Int) (rs : List Rel) (I : PH) (hl : Ints I A c l) (hs : Sizes l) (hr : Rels I As cs rs) (hw : ∀ r ∈ rs, Viewed l r.v) :
    FnSpec Tryz.prog 18 [.agg #[.slice A l.length c], .slice As rs.length cs] I [] (fun u R' => ∃ (A' : Option Addr) (c' : Nat), u = .tuple #[.slice A' (cerD l rs).1.length c', .int .i64 (cerD l rs).2] ∧ R' = [iR A' c' (cerD l rs).1]) := by
  have hT := atold_spec A As c cs l rs I hl hs hr hw
  unfold ToldPost at hT
  have hz := size_ok hs
  have hq := fun qs (h0 : tolE l rs = 0) => told_q (qs := qs) hs hw h0
  refine FnSpec.enterP Tryz.func18 rfl Tryz.ntmps18 rfl fun w F => ?_
  unfold cerD
  by_cases h0 : tolE l rs = 0
  · rw [if_pos h0]
    rw [h0] at hT
    rw [if_pos rfl] at hT
    repeat' first
      | ((with_reducible refine Nx.is_wp ?_); first | refine Nx.p_stopr 4 rfl ?_ | refine Nx.wo ?_ | refine Nx.zp (fun hc => ?_) (fun hc => ?_))
      | (refine Nx.zo ?_; first | refine Nx.opr rfl rfl ?_ | (refine Nx.call (Rpre := []) rfl rfl rfl (by kernel_rfl) rfl hT (Ent.refl _) ?_; rintro _ _ ⟨Am, cm, qs, rfl, hqs, -, rfl⟩) | refine Nx.so ?_ | refine Nx.sb (fun bx => ?_) | refine Nx.sa (fun A2 c2 => ?_))
      | ((with_reducible refine Nx.is_at ?_); first | refine Nx.a ?_ | refine Nx.zd ?_ | refine Nx.zs (fun hc => ?_) (fun hc => ?_))
      | ((with_reducible refine Nx.is_mix ?_); first | refine Nx.m ?_ | refine Nx.zm ?_ | refine Nx.zt (fun hc => ?_) (fun hc => ?_))
      | refine Nx.zx ?_ | fail
    refine Nx.unstop ?_
    obtain ⟨hg, ha, he⟩ := hq qs h0 (hqs rfl)
    refine Nx.giveE (A := Am) (c := cm) (qs := qs) (RR := [F]) (by (exact Ent.auto)) fun I1 hI1 hE => ?_
    have hC := certain_spec Am cm qs (prod l).toNat I1 hE hg hz.1 (by omega) (by omega)
    rw [he, hz.2.2] at hC
    repeat' first
      | ((with_reducible refine Nx.is_wp ?_); first | refine Nx.wo ?_ | refine Nx.zp (fun hc => ?_) (fun hc => ?_))
      | (refine Nx.zo ?_; first | refine Nx.opr rfl rfl ?_ | (refine Nx.call (Rpre := []) rfl rfl rfl (by kernel_rfl) rfl hC (Ent.refl _) ?_; rintro _ _ ⟨A', c', rfl, rfl⟩) | refine Nx.so ?_ | refine Nx.sb (fun bx => ?_) | refine Nx.sa (fun A2 c2 => ?_))
      | ((with_reducible refine Nx.is_at ?_); first | refine Nx.a ?_ | refine Nx.zd ?_ | refine Nx.zs (fun hc => ?_) (fun hc => ?_))
      | ((with_reducible refine Nx.is_mix ?_); first | refine Nx.m ?_ | refine Nx.zm ?_ | refine Nx.zt (fun hc => ?_) (fun hc => ?_))
      | refine Nx.zx ?_ | fail
    exact Nx.imm_le hI1 (Nx.ret_fn rfl [_] ⟨A', c', rfl, rfl⟩ (by (exact Ent.auto)))
  · rw [if_neg h0]
    rw [if_neg h0] at hT
    generalize tolE l rs = er at h0 hT
    repeat' first
      | ((with_reducible refine Nx.is_wp ?_); first | refine Nx.wo ?_ | refine Nx.zp (fun hc => ?_) (fun hc => ?_))
      | (refine Nx.zo ?_; first | refine Nx.opr rfl rfl ?_ | (refine Nx.call (Rpre := []) rfl rfl rfl (by kernel_rfl) rfl hT (Ent.refl _) ?_; rintro _ _ ⟨Am, cm, qs, rfl, -, hqs, rfl⟩) | refine Nx.so ?_ | refine Nx.sb (fun bx => ?_) | refine Nx.sa (fun A2 c2 => ?_))
      | ((with_reducible refine Nx.is_at ?_); first | refine Nx.a ?_ | refine Nx.zd ?_ | refine Nx.zs (fun hc => ?_) (fun hc => ?_))
      | ((with_reducible refine Nx.is_mix ?_); first | refine Nx.m ?_ | refine Nx.zm ?_ | refine Nx.zt (fun hc => ?_) (fun hc => ?_))
      | refine Nx.zx ?_ | fail
    exact Nx.ret_fn rfl [_] ⟨none, 0, rfl, rfl⟩ ((Ent.vec_nil 3 1 _).trans (by (exact Ent.auto)))
end Go.Proofs.YtjnhoemgceghlaaGreat
/- Contracts of functions of the given program, and lemmas about plain lists and numbers: what the laws of this seat lean on. -/
namespace Go.Proofs.YtjnhoemgceghlaaGreat
open Go.Eng Go.Sol
attribute [local irreducible] opK wpList Code.wp Exit.then Exit.inBlock fnPost bodyPost Nx Calls Oper.wp Rd Rds Wr Ent Stars Blk Again Vec FnSpec wpMix QRun Stop Upto wpAt
/-! slices.DeleteFunc at ints, with a closure that reads frozen memory -/
theorem gx_at {l : List Int} {k : Nat} (h : k < l.length) : l.getD k default = l[k] := by rw [List.getD_eq_getElem?_getD, List.getElem?_eq_getElem h]; rfl
/-- A list while some are taken out of it. -/
structure DelI (p : Int → Bool) (l : List Int) (s : Nat × List Int) : Prop where
  le : s.1 ≤ l.length
  len : s.2.length = l.length
  head : s.2.take ((l.take s.1).filter fun x => !(p x)).length = (l.take s.1).filter fun x => !(p x)
  tail : ∀ j, s.1 ≤ j → s.2.getD j default = l.getD j default
  lt : ((l.take s.1).filter fun x => !(p x)).length < s.1
theorem take_snocF {l : List Int} {p : Int → Bool} {k : Nat} (h : k < l.length) : (l.take (k + 1)).filter (fun x => !(p x)) = (l.take k).filter (fun x => !(p x)) ++ (if p (l.getD k default) = true then [] else [l.getD k default]) := by
  rw [List.take_succ_eq_append_getElem h, List.filter_append, gx_at h]
  congr 1
  cases hp : p l[k] <;> simp [hp]
theorem DelI.keep {p : Int → Bool} {l xs : List Int} {k : Nat} (h : DelI p l (k, xs)) (hk : k < l.length) (hp : p (l.getD k default) = false) : DelI p l (k + 1, xs.set ((l.take k).filter fun x => !(p x)).length (l.getD k default)) := by
  have e := take_snocF (p := p) hk
  rw [if_neg (by rw [hp]; decide)] at e
  have hlt := h.lt
  have hlen := h.len
  have hh := h.head
  dsimp only at hlt hlen hh
  refine ⟨hk, by dsimp only; rw [List.length_set]; exact hlen, ?_, fun j hj => ?_, by dsimp only; rw [e]; simp only [List.length_append, List.length_singleton]; omega⟩
  · dsimp only
    rw [e, List.length_append, List.length_singleton, List.take_succ_eq_append_getElem (by rw [List.length_set]; omega), List.take_set_of_le (Nat.le_refl _), hh]
    simp
  · dsimp only at hj ⊢
    rw [List.getD_eq_getElem?_getD, List.getElem?_set_ne (by omega), ← List.getD_eq_getElem?_getD]
    exact h.tail j (by dsimp only; omega)
end Go.Proofs.YtjnhoemgceghlaaGreat
/- Contracts of functions of the given program, and lemmas about plain lists and numbers: what the laws of this seat lean on. -/
namespace Go.Proofs.YtjnhoemgceghlaaGreat
open Go.Eng Go.Sol
attribute [local irreducible] opK wpList Code.wp Exit.then Exit.inBlock fnPost bodyPost Nx Calls Oper.wp Rd Rds Wr Ent Stars Blk Again Vec FnSpec wpMix QRun Stop Upto wpAt
theorem Nx.giveTold {C : Cx} {e : Env} {I : PH} {R : List Res} {K : Act → World → Prop} {B At As : Option Addr} {c' ct ca : Nat} {s t : List Int} {rs : List Rel} {RR : List Res}
    (hR : Ent R (Stars (toldR B c' s At ct t As ca rs) :: RR)) (h : ∀ I', PH.le I I' → Ints I' B c' s → Ints I' At ct t → Rels I' As ca rs → Nx C e I' RR K) : Nx C e I R K := by
  refine Nx.ent hR ?_
  refine Nx.freezeAt 0 rfl fun I1 m1 hI1 hm1 h1 => ?_
  obtain ⟨a0, ha0, b0⟩ := Stars.get 0 h1 rfl
  obtain ⟨a1, ha1, b1⟩ := Stars.get 1 h1 rfl
  obtain ⟨a2, ha2, b2⟩ := Stars.get 2 h1 rfl
  obtain ⟨a3, ha3, b3⟩ := Stars.get 3 h1 rfl
  exact h I1 hI1 (Vec.sliceOf (ha0.trans hm1) b0) (Vec.sliceOf (ha1.trans hm1) b1) (rels_of hm1 b2 ha2 b3 ha3)
theorem rels_app {I I' q : PH} {As A3 : Option Addr} {ca c3 : Nat} {rs : List Rel} {r : Rel} (hr : Rels I As ca rs) (hle : PH.le I I') (hq : PH.le q I') (hv : Stars [Vec 43 3 A3 (rs.length + 1) c3 (rs.flatMap relC ++ relC r)] q) (h1 : RowsOf I r.va r.vc r.v) (h2 : Ints I r.val.1 r.val.2.1 r.val.2.2) : Rels I' A3 c3 (rs ++ [r]) := by
  obtain ⟨a0, ha0, b0⟩ := Stars.get 0 hv rfl
  refine ⟨?_, fun x hx => ?_, fun x hx => ?_⟩
  · have hl : (rs ++ [r]).length = rs.length + 1 := by rw [List.length_append]; rfl
    have hf : (rs ++ [r]).flatMap relC = rs.flatMap relC ++ relC r := by rw [List.flatMap_append, List.flatMap_cons, List.flatMap_nil, List.append_nil]
    refine Vec.sliceN (ha0.trans hq) (t := 43) ?_ fun x _ => relC_len x
    rw [hl, hf]; exact b0
  · rcases List.mem_append.1 hx with h | h
    · exact (hr.view x h).mono hle
    · rw [List.mem_singleton.1 h]; exact h1.mono hle
  · rcases List.mem_append.1 hx with h | h
    · exact (hr.val x h).mono hle
    · rw [List.mem_singleton.1 h]; exact h2.mono hle
end Go.Proofs.YtjnhoemgceghlaaGreat
/- Contracts of functions of the given program, and lemmas about plain lists and numbers: what the laws of this seat lean on. -/
namespace Go.Proofs.YtjnhoemgceghlaaGreat
open Go.Eng Go.Sol
attribute [local irreducible] opK wpList Code.wp Exit.then Exit.inBlock fnPost bodyPost Nx Calls Oper.wp Rd Rds Wr Ent Stars Blk Again Vec FnSpec wpMix QRun Stop Upto wpAt
/-! Plain: what the laws on the attacker say -/
theorem vals_ne {n k : Nat} {L : List Eqn} (hne : solsOf n L ≠ []) : 0 < (valsOf n L k).length := by
  obtain ⟨s, hs⟩ := List.exists_mem_of_ne_nil _ hne
  exact List.length_pos_of_mem (((vals_set n L k).mem _).2 ⟨s, hs, rfl⟩)
theorem asc_lt {l : List Int} (h : l.Pairwise (· < ·)) {i j : Nat} (hij : i < j) (hj : j < l.length) : l.getD i default < l.getD j default := by
  rw [List.pairwise_iff_getElem] at h
  have := h i j (by omega) hj hij
  rw [List.getD_eq_getElem?_getD, List.getD_eq_getElem?_getD, List.getElem?_eq_getElem (show i < l.length by omega), List.getElem?_eq_getElem hj]
  exact this
theorem vals_reach {n k : Nat} {l : List EqR} (hg : ∀ q ∈ l, GoodE n q) (hk : k ∈ touch n (eqns l)) (hne : solsOf n (eqns l) ≠ []) :
    reachAt n (eqns l) k = ((valsOf n (eqns l) k).getD 0 default, (valsOf n (eqns l) k).getD ((valsOf n (eqns l) k).length - 1) default, false) := by
  have hv := vals_set n (eqns l) k
  have h0 := vals_ne (k := k) hne
  refine reach_is hg hk hne ((hv.mem _).1 (getD_memI h0)) ((hv.mem _).1 (getD_memI (by omega))) fun s hs => ?_
  obtain ⟨j, hj, he⟩ := mem_getDI ((hv.mem _).2 ⟨s, hs, rfl⟩)
  rw [← he]
  constructor
  · rcases Nat.eq_zero_or_pos j with rfl | h
    · exact Int.le_refl _
    · exact Int.le_of_lt (asc_lt hv.asc h hj)
  · rcases Nat.lt_or_ge j ((valsOf n (eqns l) k).length - 1) with h | h
    · exact Int.le_of_lt (asc_lt hv.asc h (by omega))
    · rw [show j = (valsOf n (eqns l) k).length - 1 by omega]; exact Int.le_refl _
theorem mem_cert {n : Nat} {L : List Eqn} {x : Int} : x ∈ certL n L ↔ ∃ k ∈ touch n L, (valsOf n L k).length = 1 ∧ x = (k : Int) := by
  unfold certL certU natI
  rw [List.mem_map]
  constructor
  · rintro ⟨k, hk, rfl⟩
    rw [List.mem_filter, decide_eq_true_eq] at hk
    exact ⟨k, hk.1, hk.2, rfl⟩
  · rintro ⟨k, h1, h2, rfl⟩
    exact ⟨k, List.mem_filter.2 ⟨h1, decide_eq_true h2⟩, rfl⟩
theorem cert_at {n k : Nat} {L : List Eqn} : (k : Int) ∈ certL n L ↔ k ∈ touch n L ∧ (valsOf n L k).length = 1 := by
  rw [mem_cert]
  constructor
  · rintro ⟨j, h1, h2, h3⟩
    obtain rfl : k = j := by omega
    exact ⟨h1, h2⟩
  · exact fun h => ⟨k, h.1, h.2, rfl⟩
/-- Releases of a made table. -/
structure MadeA (l t : List Int) (rs : List Rel) : Prop where
  rel : relsE l rs = 0
  good : ∀ q ∈ qsOf l rs, GoodE (prod l).toNat q
  len : (qsOf l rs).length ≤ 1152
  ne : solsOf (prod l).toNat (eqns (qsOf l rs)) ≠ []
  want : wantL (prod l).toNat (touch (prod l).toNat (eqns (qsOf l rs))) t ∈ solsOf (prod l).toNat (eqns (qsOf l rs))
  chk : chkQ (prod l) (qsOf l rs) = if smallB (prod l).toNat (eqns (qsOf l rs)) = false then 1 else 0
theorem made_a {l t : List Int} {rs : List Rel} (hs : Sizes l) (hT : tabOk l t 2) (h : RelsOk l t rs) (hn : rs.length ≤ 24) : MadeA l t rs := by
  have hV := relsV_of hs hT (by decide) (by decide) h hn
  have hz := size_ok hs
  have hg := told_good hs hV
  have hchk := chk_of (N := (prod l).toNat) (qs := qsOf l rs) (by omega) (hV.qlen hs) hg
  rw [hz.2.2] at hchk
  have hw := want_sol (t := t) hg (fun c _ => by
    by_cases hct : c < t.length
    · have := hT.2 c hct
      show 0 ≤ t.getD c default ∧ t.getD c default ≤ 1000000
      omega
    · rw [getD_ge (by omega)]; decide) fun q hq => by
      obtain ⟨p, hp, rfl⟩ := List.mem_map.1 hq
      exact (told_eq (q := canonE p) hs hT (by decide) (by decide) h hn hp).2
  exact ⟨(relsE_iff hs (views_of h)).2 hV, hg, hV.qlen hs, List.ne_nil_of_mem hw, hw, hchk⟩
theorem MadeA.tol {l t : List Int} {rs : List Rel} (h : MadeA l t rs) : tolE l rs = chkQ (prod l) (qsOf l rs) := by unfold tolE; rw [if_pos h.rel]
theorem MadeA.tol2 {l t : List Int} {rs : List Rel} (h : MadeA l t rs) : tolE l rs = if smallB (prod l).toNat (eqns (qsOf l rs)) = false then 1 else 0 := h.tol.trans h.chk
theorem MadeA.cer {l t : List Int} {rs : List Rel} (h : MadeA l t rs) : cerD l rs = if tolE l rs = 0 then (certL (prod l).toNat (eqns (qsOf l rs)), 0) else ([], tolE l rs) := by
  unfold cerD certF
  rw [if_neg h.ne]
theorem MadeA.rch {l t : List Int} {rs : List Rel} (h : MadeA l t rs) : reachR (prod l) (qsOf l rs) = if tolE l rs = 0 then ((List.range (prod l).toNat).map (reachAt (prod l).toNat (eqns (qsOf l rs))), 0) else ([], tolE l rs) := by
  unfold reachR
  rw [h.tol, if_neg h.ne]
end Go.Proofs.YtjnhoemgceghlaaGreat
/- Contracts of functions of the given program, and lemmas about plain lists and numbers: what the laws of this seat lean on. -/
namespace Go.Proofs.YtjnhoemgceghlaaGreat
open Go.Eng Go.Sol
attribute [local irreducible] opK wpList Code.wp Exit.then Exit.inBlock fnPost bodyPost Nx Calls Oper.wp Rd Rds Wr Ent Stars Blk Again Vec FnSpec wpMix QRun Stop Upto wpAt
/-! Plain: a table that is released with its least suppression -/
theorem tolE_strip (l : List Int) (rs : List Rel) : tolE l (rs.map rStrip) = tolE l rs := by unfold tolE; rw [relsE_strip, qsOf_strip]
theorem cerD_strip (l : List Int) (rs : List Rel) : cerD l (rs.map rStrip) = cerD l rs := by unfold cerD; rw [tolE_strip, qsOf_strip]
theorem cer_same {l : List Int} {rs rs' : List Rel} (h : rs.map rStrip = rs'.map rStrip) : cerD l rs = cerD l rs' := by rw [← cerD_strip l rs, h, cerD_strip]
theorem cer_hid {l : List Int} {es : List Rel} {r r' : Rel} {L : List Int} (h1 : r'.num = r.num) (h2 : vStrip r'.v = vStrip r.v) (h3 : r'.val.2.2 = hidL r.val.2.2 L) : cerD l (es ++ [r']) = cerD l (es ++ [hidR r L]) := by
  refine cer_same ?_
  rw [List.map_append, List.map_append]
  congr 1
  unfold hidR rStrip
  simp only [List.map_cons, List.map_nil]
  rw [h1, h2, h3, vStrip_idem]
/-- A cell is exposed for the margin 1 exactly if it is certain. -/
theorem narrow_cert {l t : List Int} {rs : List Rel} (h : MadeA l t rs) {k : Nat} : narrowB (reachAt (prod l).toNat (eqns (qsOf l rs)) k) 1 = true ↔ (k : Int) ∈ certL (prod l).toNat (eqns (qsOf l rs)) := by
  rw [cert_at]
  by_cases hm : k ∈ touch (prod l).toNat (eqns (qsOf l rs))
  · rw [vals_reach h.good hm h.ne]
    have h0 := vals_ne (k := k) h.ne
    have hasc := (vals_set (prod l).toNat (eqns (qsOf l rs)) k).asc
    unfold narrowB
    generalize valsOf (prod l).toNat (eqns (qsOf l rs)) k = vs at h0 hasc
    dsimp only
    rw [Bool.and_eq_true, decide_eq_true_eq]
    constructor
    · rintro ⟨_, h1⟩
      refine ⟨hm, ?_⟩
      by_cases h2 : vs.length = 1
      · exact h2
      · have := asc_lt hasc (i := 0) (j := vs.length - 1) (by omega) (by omega)
        omega
    · rintro ⟨_, h1⟩
      refine ⟨rfl, ?_⟩
      rw [h1]
      show vs.getD 0 default - vs.getD 0 default < 1
      omega
  · constructor
    · intro hn
      exfalso
      unfold narrowB reachAt at hn
      rw [if_neg hm] at hn
      simp at hn
    · exact fun hn => absurd hn.1 hm
/-- What somebody who tries all tables knows if a set is hidden. -/
theorem top_law {l t : List Int} {es : List Rel} {r : Rel} {w p : List Int} {x : List Int × Int × Int} (hS : StoryOk l t es r w p) (h : LQ l es r w p 1 x) :
    (x.2.2 = 0 ∨ x.2.2 = 1 ∨ x.2.2 = 51) ∧
    (x.2.2 = 0 → ∀ s, s < 2 ^ w.length → (bitsL s w.length = x.1 ∨ wSum w (bitsL s w.length) < x.2.1) →
      ((cerD l (es ++ [hidR r (bitsL s w.length)])).2 = 0 ∨ (cerD l (es ++ [hidR r (bitsL s w.length)])).2 = 1) ∧ (bitsL s w.length = x.1 → (cerD l (es ++ [hidR r (bitsL s w.length)])).2 = 0) ∧
      ((cerD l (es ++ [hidR r (bitsL s w.length)])).2 = 0 → ((∃ k ∈ (cerD l (es ++ [hidR r (bitsL s w.length)])).1, k ∈ p) ↔ bitsL s w.length ≠ x.1))) := by
  obtain ⟨g1, g2, g3⟩ := least_law hS (by decide) h
  refine ⟨g1, fun h0 s hs hor => ?_⟩
  obtain ⟨s0, hs0, hx1, hp0, hx2⟩ := g2 h0
  have hro := rels_snoc hS.rels (hidR_ok (bitsL s w.length) hS.rel) hS.num
  have hM := made_a hS.sizes hS.tab hro (by have := hS.few; rw [List.length_append]; show es.length + 1 ≤ 24; omega)
  have hz := size_ok hS.sizes
  have hpb := pb_iff (s := s) hS hS.asc hS.inp (show 1 ≤ (1 : Int) ∧ (1 : Int) ≤ 100 by decide)
  obtain ⟨_, hrq, _⟩ := rch_made hS.sizes hS.tab hro (by have := hS.few; rw [List.length_append]; show es.length + 1 ≤ 24; omega)
  have hrc := hrq.trans hM.rch
  have hce := hM.cer
  have ht := hM.tol2
  have hnc := fun k => narrow_cert hM (k := k)
  have hpbs : bitsL s w.length = x.1 → pbF l es r w.length p 1 s = true := fun he => by
    rw [hx1] at he
    rw [← hp0]
    unfold pbF
    rw [he]
  generalize es ++ [hidR r (bitsL s w.length)] = rs at hM hpb hrc hce ht hnc
  have ht01 : tolE l rs = 0 ∨ tolE l rs = 1 := by
    rw [ht]
    split
    · exact .inr rfl
    · exact .inl rfl
  have hc2 : (cerD l rs).2 = tolE l rs := by rw [hce]; split <;> simp_all
  have hr2 : (rchD l rs).2 = tolE l rs := by rw [hrc]; split <;> simp_all
  refine ⟨by rw [hc2]; exact ht01, fun he => ?_, fun hc0 => ?_⟩
  · have := (hpb.1 (hpbs he)).1
    rw [hc2, ← hr2]; exact this
  · rw [hc2] at hc0
    rw [if_pos hc0] at hce hrc
    have hat : ∀ k ∈ p, (narrowB ((rchD l rs).1.getD k.toNat default) 1 = true ↔ k ∈ (cerD l rs).1) := fun k hk => by
      have hkb := hS.inp k hk
      rw [hrc, hce]
      show narrowB (((List.range (prod l).toNat).map (reachAt (prod l).toNat (eqns (qsOf l rs)))).getD k.toNat default) 1 = true ↔ k ∈ certL (prod l).toNat (eqns (qsOf l rs))
      rw [range_at (show k.toNat < (prod l).toNat by omega), hnc k.toNat, show ((k.toNat : Nat) : Int) = k by omega]
    constructor
    · rintro ⟨k, hk, hkp⟩ he
      have := (hpb.1 (hpbs he)).2 k hkp
      rw [(hat k hkp).2 hk] at this
      cases this
    · intro hne
      have hlt : wSum w (bitsL s w.length) < x.2.1 := hor.resolve_left hne
      have hpf := g3 (.inl h0) s hs fun _ => hlt
      by_cases hex : ∃ k ∈ (cerD l rs).1, k ∈ p
      · exact hex
      · exfalso
        have : pbF l es r w.length p 1 s = true := hpb.2 ⟨by rw [hr2]; exact hc0, fun k hk => by
          cases hn : narrowB ((rchD l rs).1.getD k.toNat default) 1 with
          | false => rfl
          | true => exact absurd ⟨k, (hat k hk).1 hn, hk⟩ hex⟩
        rw [hpf] at this
        cases this
end Go.Proofs.YtjnhoemgceghlaaGreat
/- Contracts of functions of the given program, and lemmas about plain lists and numbers: what the laws of this seat lean on. -/
namespace Go.Proofs.YtjnhoemgceghlaaGreat
open Go.Eng Go.Sol
attribute [local irreducible] opK wpList Code.wp Exit.then Exit.inBlock fnPost bodyPost Nx Calls Oper.wp Rd Rds Wr Ent Stars Blk Again Vec FnSpec wpMix QRun Stop Upto wpAt
/-! The law: a greater margin or more protected cells -/
structure Given (I : PH) (B As Aw Bp : Option Addr) (c' ca cw cp : Nat) (s : List Int) (es : List Rel) (r : Rel) (w p : List Int) : Prop where
  z : Ints I B c' s
  es : Rels I As ca es
  v : RowsOf I r.va r.vc r.v
  d : Ints I r.val.1 r.val.2.1 r.val.2.2
  w : Ints I Aw cw w
  p : Ints I Bp cp p
theorem Given.mono {I I' : PH} {B As Aw Bp : Option Addr} {c' ca cw cp : Nat} {s : List Int} {es : List Rel} {r : Rel} {w p : List Int} (h : Given I B As Aw Bp c' ca cw cp s es r w p) (hle : PH.le I I') : Given I' B As Aw Bp c' ca cw cp s es r w p :=
  ⟨h.z.mono hle, h.es.mono hle, h.v.mono hle, h.d.mono hle, h.w.mono hle, h.p.mono hle⟩
set_option maxHeartbeats 8000000 in
theorem LeastQ {I : PH} {B As Aw Bp : Option Addr} {c' ca cw cp : Nat} {s t : List Int} {es : List Rel} {r : Rel} {w p : List Int} (hG : Given I B As Aw Bp c' ca cw cp s es r w p) (hS : StoryOk s t es r w p) (Ap : Option Addr) (cq : Nat) (p' : List Int) (m : Int) (hp : Ints I Ap cq p') (h9 : p'.length ≤ 1000) :
    FnSpec Tryz.prog 13 [.agg #[.slice B s.length c'], .slice As es.length ca, .agg #[.int .i64 r.num, .slice r.va r.v.length r.vc, .slice r.val.1 r.val.2.2.length r.val.2.1], .slice Aw w.length cw, .slice Ap p'.length cq, .int .i64 m] I []
      (fun u R' => ∃ (x : List Int × Int × Int) (A' : Option Addr) (c' : Nat), LQ s es r w p' m x ∧ u = .tuple #[.slice A' x.1.length c', .int .i64 x.2.1, .int .i64 x.2.2] ∧ R' = [iR A' c' x.1]) := by
  have h := LeastP_spec B As Aw Ap c' ca cw cq s es r w p' m I hG.z hS.sizes hG.es (views_of hS.rels) (by have := hS.few; omega) hG.v hG.d hS.rel.view hS.six hG.w hp (by omega)
  refine FnSpec.mono h fun u R' hu => ?_
  obtain ⟨res, A', c2, hil, rfl, rfl⟩ := hu
  exact ⟨_, A', c2, ⟨res, hil, rfl⟩, rfl, rfl⟩
end Go.Proofs.YtjnhoemgceghlaaGreat
/- Contracts of functions of the given program, and lemmas about plain lists and numbers: what the laws of this seat lean on. -/
namespace Go.Proofs.YtjnhoemgceghlaaGreat
open Go.Eng
attribute [local irreducible] opK wpList Code.wp Exit.then Exit.inBlock fnPost bodyPost Nx Calls Oper.wp Rd Rds Wr Ent Stars Blk Again Vec FnSpec wpMix QRun Stop Upto wpAt
attribute [local irreducible] strV
/-! Names -/
def chB (c : UInt8) : Bool := decide (97 ≤ c.toNat ∧ c.toNat ≤ 122 ∨ 48 ≤ c.toNat ∧ c.toNat ≤ 57 ∨ c.toNat = 95)
def words : List (List UInt8) := [[97, 108, 108], [97, 110, 100], [101, 118, 101, 110, 116], [102, 114, 111, 109], [109, 105, 115, 115, 105, 110, 103], [110, 111, 116], [111, 110], [111, 114], [116, 111], [117, 110, 100, 101, 114], [119, 104, 101, 114, 101]]
def headB (s : List UInt8) : Bool := decide (1 ≤ s.length ∧ s.length ≤ 16 ∧ 97 ≤ (s.getD 0 default).toNat ∧ (s.getD 0 default).toNat ≤ 122)
def nameB (s : List UInt8) : Bool := headB s && s.all chB && !(words.contains s)
theorem all_take {s : List UInt8} {k : Nat} (hk : k < s.length) : (s.take (k + 1)).all chB = ((s.take k).all chB && chB (s.getD k default)) := by
  rw [List.take_succ_eq_append_getElem hk, List.all_append, List.getD_eq_getElem?_getD, List.getElem?_eq_getElem hk]
  simp
theorem all_false {s : List UInt8} {k : Nat} (hk : k < s.length) (h : chB (s.getD k default) = false) : s.all chB = false := by
  rw [List.all_eq_false]
  exact ⟨s.getD k default, by rw [List.getD_eq_getElem?_getD, List.getElem?_eq_getElem hk]; exact List.getElem_mem _, by rw [h]; decide⟩
set_option maxHeartbeats 4000000 in
set_option maxRecDepth 10000 in
theorem Name_spec (s : List UInt8) (hs : 0 ≤ s.length) (I : PH) : FnSpec Tryz.prog 101 [strV s] I [] (fun v R' => v = .bool (nameB s) ∧ R' = []) := by
  by_cases hh : headB s = true
  · have hh' := of_decide_eq_true hh
    replace hs : s.length ≤ 34359738368 := by omega
    refine FnSpec.enterP Tryz.func101 rfl Tryz.ntmps101 rfl fun w F => ?_
    repeat' first
      | ((with_reducible refine Nx.is_wp ?_); first | refine Nx.wo ?_ | refine Nx.zp (fun hc => ?_) (fun hc => ?_))
      | (refine Nx.zo ?_; first | refine Nx.opr rfl rfl ?_ | refine Nx.len_strV rfl rfl rfl rfl ?_ | refine Nx.index_str (i := 0) rfl rfl rfl rfl (by omega) ?_ | refine Nx.str_bytes rfl rfl rfl rfl rfl hs (fun b cap h1 h2 => ?_) | refine Nx.so ?_ | refine Nx.sb (fun bx => ?_) | refine Nx.sa (fun A2 c2 => ?_))
      | ((with_reducible refine Nx.is_at ?_); first | refine Nx.a ?_ | refine Nx.zd ?_ | refine Nx.zs (fun hc => ?_) (fun hc => ?_))
      | ((with_reducible refine Nx.is_mix ?_); first | refine Nx.m ?_ | refine Nx.zm ?_ | refine Nx.zt (fun hc => ?_) (fun hc => ?_))
      | refine Nx.zx ?_ | fail
    refine Nx.freezeAt 0 rfl fun I1 m1 hI1 hm1 h1' => ?_
    have hb : SliceOf byteV I1 (some ⟨b, 0, none⟩) cap s := BlkZ.sliceOf hm1 h1' h1 h2
    repeat' first
      | ((with_reducible refine Nx.is_wp ?_); first | refine Nx.wo ?_ | refine Nx.zp (fun hc => ?_) (fun hc => ?_))
      | (refine Nx.zo ?_; first | refine Nx.opr rfl rfl ?_ | refine Nx.so ?_ | refine Nx.sb (fun bx => ?_) | refine Nx.sa (fun A2 c2 => ?_))
      | ((with_reducible refine Nx.is_at ?_); first | refine Nx.a ?_ | refine Nx.zd ?_ | refine Nx.zs (fun hc => ?_) (fun hc => ?_))
      | ((with_reducible refine Nx.is_mix ?_); first | refine Nx.m ?_ | refine Nx.zm ?_ | refine Nx.zt (fun hc => ?_) (fun hc => ?_))
      | refine Nx.zx ?_ | fail
    refine Nx.p_loop (σ := Nat) (fun k => [(0, strV s), (24, .slice (some ⟨b, 0, none⟩) s.length cap), (25, .int .i64 s.length), (26, .int .i64 (k : Int))])
      (fun _ => [F]) (fun k => k ≤ s.length ∧ (s.take k).all chB = true) (fun k => s.length - k) 0 rfl ⟨Nat.zero_le _, rfl⟩ ⟨rfl, rfl, rfl, rfl, trivial⟩ (by (exact Ent.auto)) ?_
    rintro k ⟨hk, hal⟩
    by_cases hlt : k < s.length
    · have ht := all_take hlt
      rw [hal, Bool.true_and] at ht
      have hf := all_false hlt
      by_cases hc : chB (s.getD k default) = true
      · rw [hc] at ht
        have hc' := of_decide_eq_true hc
        repeat' first
          | ((with_reducible refine Nx.is_wp ?_); first | refine Nx.wo ?_ | refine Nx.zp (fun hc => ?_) (fun hc => ?_))
          | (refine Nx.zo ?_; first | refine Nx.opr rfl rfl ?_ | refine Nx.indexAddr_nat rfl rfl rfl rfl rfl (by omega) rfl ?_ | refine Nx.load rfl rfl rfl (hb.rd (by omega)) ?_ | refine Nx.so ?_ | refine Nx.sb (fun bx => ?_) | refine Nx.sa (fun A2 c2 => ?_))
          | ((with_reducible refine Nx.is_at ?_); first | refine Nx.a ?_ | refine Nx.zd ?_ | refine Nx.zs (fun hc => ?_) (fun hc => ?_))
          | ((with_reducible refine Nx.is_mix ?_); first | refine Nx.m ?_ | refine Nx.zm ?_ | refine Nx.zt (fun hc => ?_) (fun hc => ?_))
          | refine Nx.zx ?_ | fail
        all_goals exact Nx.again (k + 1) ⟨hlt, ht⟩ (by omega) ⟨rfl, rfl, rfl, rfl, trivial⟩ (by (exact Ent.auto))
      · have hc0 : chB (s.getD k default) = false := by simpa using hc
        have hc' := of_decide_eq_false hc0
        have hn : nameB s = false := by unfold nameB; rw [hf hc0]; simp
        rw [hn]
        repeat' first
          | ((with_reducible refine Nx.is_wp ?_); first | refine Nx.wo ?_ | refine Nx.zp (fun hc => ?_) (fun hc => ?_))
          | (refine Nx.zo ?_; first | refine Nx.opr rfl rfl ?_ | refine Nx.indexAddr_nat rfl rfl rfl rfl rfl (by omega) rfl ?_ | refine Nx.load rfl rfl rfl (hb.rd (by omega)) ?_ | refine Nx.so ?_ | refine Nx.sb (fun bx => ?_) | refine Nx.sa (fun A2 c2 => ?_))
          | ((with_reducible refine Nx.is_at ?_); first | refine Nx.a ?_ | refine Nx.zd ?_ | refine Nx.zs (fun hc => ?_) (fun hc => ?_))
          | ((with_reducible refine Nx.is_mix ?_); first | refine Nx.m ?_ | refine Nx.zm ?_ | refine Nx.zt (fun hc => ?_) (fun hc => ?_))
          | refine Nx.zx ?_ | fail
        all_goals exact Nx.imm_le hI1 (Nx.ret_fn rfl [] ⟨rfl, rfl⟩ (by (exact Ent.auto)))
    · obtain rfl : k = s.length := by omega
      rw [List.take_length] at hal
      have hnb : nameB s = !(words.contains s) := by unfold nameB; rw [hh, hal]; rfl
      repeat' first
        | ((with_reducible refine Nx.is_wp ?_); first | refine Nx.p_bool_t rfl rfl (by assumption) ?_ | refine Nx.p_bool_f rfl rfl (by assumption) ?_ | refine Nx.wo ?_ | refine Nx.zp (fun hc => ?_) (fun hc => ?_))
        | (refine Nx.zo ?_; first | refine Nx.opr rfl rfl ?_ | refine Nx.binr rfl rfl run_eql_c rfl ?_ | refine Nx.so ?_ | refine Nx.sb (fun bx => ?_) | refine Nx.sa (fun A2 c2 => ?_))
        | ((with_reducible refine Nx.is_at ?_); first | refine Nx.a ?_ | refine Nx.zd ?_ | refine Nx.zs (fun hc => ?_) (fun hc => ?_))
        | ((with_reducible refine Nx.is_mix ?_); first | refine Nx.m ?_ | refine Nx.zm ?_ | refine Nx.zt (fun hc => ?_) (fun hc => ?_))
        | refine Nx.zx ?_ | fail
      all_goals
        refine Nx.imm_le hI1 (Nx.ret_fn rfl [] ⟨?_, rfl⟩ (by (exact Ent.auto)))
        rw [hnb]
        simp only [beq_iff_eq, beq_eq_false_iff_ne] at *
        simp [words, *]
  · have hh0 : headB s = false := by simpa using hh
    have hh' := of_decide_eq_false hh0
    have hn : nameB s = false := by unfold nameB; rw [hh0]; rfl
    rw [hn]
    by_cases h1 : 1 ≤ s.length
    · refine FnSpec.enterP Tryz.func101 rfl Tryz.ntmps101 rfl fun w F => ?_
      repeat' first
        | ((with_reducible refine Nx.is_wp ?_); first | refine Nx.wo ?_ | refine Nx.zp (fun hc => ?_) (fun hc => ?_))
        | (refine Nx.zo ?_; first | refine Nx.opr rfl rfl ?_ | refine Nx.len_strV rfl rfl rfl rfl ?_ | refine Nx.index_str (i := 0) rfl rfl rfl rfl (by omega) ?_ | refine Nx.so ?_ | refine Nx.sb (fun bx => ?_) | refine Nx.sa (fun A2 c2 => ?_))
        | ((with_reducible refine Nx.is_at ?_); first | refine Nx.a ?_ | refine Nx.zd ?_ | refine Nx.zs (fun hc => ?_) (fun hc => ?_))
        | ((with_reducible refine Nx.is_mix ?_); first | refine Nx.m ?_ | refine Nx.zm ?_ | refine Nx.zt (fun hc => ?_) (fun hc => ?_))
        | refine Nx.zx ?_ | fail
      all_goals exact Nx.ret_fn rfl [] ⟨rfl, rfl⟩ (by (exact Ent.auto))
    · refine FnSpec.enterP Tryz.func101 rfl Tryz.ntmps101 rfl fun w F => ?_
      repeat' first
        | ((with_reducible refine Nx.is_wp ?_); first | refine Nx.wo ?_ | refine Nx.zp (fun hc => ?_) (fun hc => ?_))
        | (refine Nx.zo ?_; first | refine Nx.opr rfl rfl ?_ | refine Nx.len_strV rfl rfl rfl rfl ?_ | refine Nx.so ?_ | refine Nx.sb (fun bx => ?_) | refine Nx.sa (fun A2 c2 => ?_))
        | ((with_reducible refine Nx.is_at ?_); first | refine Nx.a ?_ | refine Nx.zd ?_ | refine Nx.zs (fun hc => ?_) (fun hc => ?_))
        | ((with_reducible refine Nx.is_mix ?_); first | refine Nx.m ?_ | refine Nx.zm ?_ | refine Nx.zt (fun hc => ?_) (fun hc => ?_))
        | refine Nx.zx ?_ | fail
      all_goals exact Nx.ret_fn rfl [] ⟨rfl, rfl⟩ (by (exact Ent.auto))
end Go.Proofs.YtjnhoemgceghlaaGreat
/- Contracts of functions of the given program, and lemmas about plain lists and numbers: what the laws of this seat lean on. -/
namespace Go.Proofs.YtjnhoemgceghlaaGreat
open Go.Eng
attribute [local irreducible] opK wpList Code.wp Exit.then Exit.inBlock fnPost bodyPost Nx Calls Oper.wp Rd Rds Wr Ent Stars Blk Again Vec FnSpec wpMix QRun Stop Upto wpAt
/-! Shifts -/
abbrev Shift := List UInt8 × Int × Int
def shC (x : Shift) : List Value := [strV x.1, .int .i64 x.2.1, .int .i64 x.2.2]
def shV (x : Shift) : Value := .agg #[strV x.1, .int .i64 x.2.1, .int .i64 x.2.2]
def shOk (x : Shift) : Prop := 0 ≤ x.1.length ∧ I64 x.2.1 ∧ I64 x.2.2
theorem shOk.i {x : Shift} (h : shOk x) : -9223372036854775808 ≤ x.2.1 ∧ x.2.1 ≤ 9223372036854775807 ∧ -9223372036854775808 ≤ x.2.2 ∧ x.2.2 ≤ 9223372036854775807 := ⟨h.2.1.1, h.2.1.2, h.2.2.1, h.2.2.2⟩
abbrev Shifts := SliceN shC 3
def properB (x : Shift) : Bool := decide (0 ≤ x.2.1 ∧ x.2.1 < x.2.2 ∧ x.2.2 ≤ 1073741824)
def beforeB (a b : Shift) : Bool := decide (a.2.1 < b.2.1) || (decide (a.2.1 = b.2.1) && strLt a.1 b.1)
def meetB (y x : Shift) : Bool := (y.1 == x.1) && decide (y.2.1 < x.2.2 ∧ x.2.1 < y.2.2)
def meetsB (l : List Shift) (x : Shift) : Bool := l.any fun y => meetB y x
def rtcmpI (a b : Int) : Int := if a < b then -1 else if a > b then 1 else 0
def cmpS (a b : List UInt8) : Int := if strLt a b then -1 else if a == b then 0 else 1
def cmpSh (a b : Shift) : Int := if rtcmpI a.2.1 b.2.1 ≠ 0 then rtcmpI a.2.1 b.2.1 else cmpS a.1 b.1
set_option maxHeartbeats 8000000 in
set_option maxRecDepth 10000 in
theorem nanI_spec (a : Int) (I : PH) : FnSpec Tryz.prog 87 [.int .i64 a] I [] (fun v R' => v = .bool false ∧ R' = []) := by
  refine FnSpec.enterP Tryz.func87 rfl Tryz.ntmps87 rfl fun w F => ?_
  repeat' first
    | ((with_reducible refine Nx.is_wp ?_); first | refine Nx.wo ?_ | refine Nx.zp (fun hc => ?_) (fun hc => ?_))
    | (refine Nx.zo ?_; first | refine Nx.opr rfl rfl ?_ | refine Nx.so ?_ | refine Nx.sb (fun bx => ?_) | refine Nx.sa (fun A2 c2 => ?_))
    | ((with_reducible refine Nx.is_at ?_); first | refine Nx.a ?_ | refine Nx.zd ?_ | refine Nx.zs (fun hc => ?_) (fun hc => ?_))
    | ((with_reducible refine Nx.is_mix ?_); first | refine Nx.m ?_ | refine Nx.zm ?_ | refine Nx.zt (fun hc => ?_) (fun hc => ?_))
    | refine Nx.zx ?_ | fail
  exact Nx.ret_fn rfl [] ⟨by simp, rfl⟩ (by (exact Ent.auto))
set_option maxHeartbeats 8000000 in
set_option maxRecDepth 10000 in
theorem cmpI_spec (a b : Int) (I : PH) : FnSpec Tryz.prog 63 [.int .i64 a, .int .i64 b] I [] (fun v R' => v = .int .i64 (rtcmpI a b) ∧ R' = []) := by
  refine FnSpec.enterP Tryz.func63 rfl Tryz.ntmps63 rfl fun w F => ?_
  repeat' first
    | ((with_reducible refine Nx.is_wp ?_); first | refine Nx.wo ?_ | refine Nx.zp (fun hc => ?_) (fun hc => ?_))
    | (refine Nx.zo ?_; first | refine Nx.opr rfl rfl ?_ | refine Nx.callv rfl rfl rfl (by kernel_rfl) rfl (nanI_spec _ I) ?_ | refine Nx.so ?_ | refine Nx.sb (fun bx => ?_) | refine Nx.sa (fun A2 c2 => ?_))
    | ((with_reducible refine Nx.is_at ?_); first | refine Nx.a ?_ | refine Nx.zd ?_ | refine Nx.zs (fun hc => ?_) (fun hc => ?_))
    | ((with_reducible refine Nx.is_mix ?_); first | refine Nx.m ?_ | refine Nx.zm ?_ | refine Nx.zt (fun hc => ?_) (fun hc => ?_))
    | refine Nx.zx ?_ | fail
  all_goals
    refine Nx.ret_fn rfl [] ⟨?_, rfl⟩ (by (exact Ent.auto))
    unfold rtcmpI
    first | rw [if_pos (by assumption)] | rw [if_neg (by assumption), if_pos (by assumption)] | rw [if_neg (by assumption), if_neg (by assumption)]
set_option maxHeartbeats 8000000 in
set_option maxRecDepth 10000 in
theorem nanS_spec (a : List UInt8) (I : PH) : FnSpec Tryz.prog 126 [strV a] I [] (fun v R' => v = .bool false ∧ R' = []) := by
  refine FnSpec.enterP Tryz.func126 rfl Tryz.ntmps126 rfl fun w F => ?_
  repeat' first
    | ((with_reducible refine Nx.is_wp ?_); first | refine Nx.wo ?_ | refine Nx.zp (fun hc => ?_) (fun hc => ?_))
    | (refine Nx.zo ?_; first | refine Nx.opr rfl rfl ?_ | refine Nx.binr rfl rfl run_neq_s rfl ?_ | refine Nx.so ?_ | refine Nx.sb (fun bx => ?_) | refine Nx.sa (fun A2 c2 => ?_))
    | ((with_reducible refine Nx.is_at ?_); first | refine Nx.a ?_ | refine Nx.zd ?_ | refine Nx.zs (fun hc => ?_) (fun hc => ?_))
    | ((with_reducible refine Nx.is_mix ?_); first | refine Nx.m ?_ | refine Nx.zm ?_ | refine Nx.zt (fun hc => ?_) (fun hc => ?_))
    | refine Nx.zx ?_ | fail
  refine Nx.ret_fn rfl [] ⟨by simp, rfl⟩ (by (exact Ent.auto))
set_option maxHeartbeats 8000000 in
set_option maxRecDepth 10000 in
theorem cmpS_spec (a b : List UInt8) (I : PH) : FnSpec Tryz.prog 102 [strV a, strV b] I [] (fun v R' => v = .int .i64 (cmpS a b) ∧ R' = []) := by
  refine FnSpec.enterP Tryz.func102 rfl Tryz.ntmps102 rfl fun w F => ?_
  repeat' first
    | ((with_reducible refine Nx.is_wp ?_); first | refine Nx.wo ?_ | refine Nx.zp (fun hc => ?_) (fun hc => ?_))
    | (refine Nx.zo ?_; first | refine Nx.opr rfl rfl ?_ | refine Nx.callv rfl rfl rfl (by kernel_rfl) rfl (nanS_spec _ I) ?_ | refine Nx.binr rfl rfl run_lss_s rfl ?_ | refine Nx.binr rfl rfl run_gtr_s rfl ?_ | refine Nx.so ?_ | refine Nx.sb (fun bx => ?_) | refine Nx.sa (fun A2 c2 => ?_))
    | ((with_reducible refine Nx.is_at ?_); first | refine Nx.a ?_ | refine Nx.zd ?_ | refine Nx.zs (fun hc => ?_) (fun hc => ?_))
    | ((with_reducible refine Nx.is_mix ?_); first | refine Nx.m ?_ | refine Nx.zm ?_ | refine Nx.zt (fun hc => ?_) (fun hc => ?_))
    | refine Nx.zx ?_ | fail
  all_goals
    refine Nx.ret_fn rfl [] ⟨?_, rfl⟩ (by (exact Ent.auto))
    unfold cmpS strLt
    simp_all
set_option maxHeartbeats 8000000 in
set_option maxRecDepth 10000 in
set_option maxRecDepth 10000 in
/-- cmp.Or of two numbers. -/
theorem or_spec (b c : Nat) (p q : Int) (I : PH) (hI : Ints I (some ⟨b, 0, none⟩) c [p, q]) : FnSpec Tryz.prog 62 [.slice (some ⟨b, 0, none⟩) 2 c] I [] (fun v R' => v = .int .i64 (if p ≠ 0 then p else q) ∧ R' = []) := by
  refine FnSpec.enterP Tryz.func62 rfl Tryz.ntmps62 rfl fun w F => ?_
  repeat' first
    | ((with_reducible refine Nx.is_wp ?_); first | refine Nx.wo ?_ | refine Nx.zp (fun hc => ?_) (fun hc => ?_))
    | (refine Nx.zo ?_; first | refine Nx.opr rfl rfl ?_ | refine Nx.so ?_ | refine Nx.sb (fun bx => ?_) | refine Nx.sa (fun A2 c2 => ?_))
    | ((with_reducible refine Nx.is_at ?_); first | refine Nx.a ?_ | refine Nx.zd ?_ | refine Nx.zs (fun hc => ?_) (fun hc => ?_))
    | ((with_reducible refine Nx.is_mix ?_); first | refine Nx.m ?_ | refine Nx.zm ?_ | refine Nx.zt (fun hc => ?_) (fun hc => ?_))
    | refine Nx.zx ?_ | fail
  refine Nx.p_loop (σ := Nat) (fun k => [(3, .int .i64 0), (6, .slice (some ⟨b, 0, none⟩) 2 c), (7, .int .i64 2), (8, .int .i64 (k : Int))])
    (fun _ => [F]) (fun k => k ≤ 2 ∧ (1 ≤ k → p = 0) ∧ (2 ≤ k → q = 0)) (fun k => 2 - k) 0 rfl ⟨by omega, by omega, by omega⟩ ⟨rfl, rfl, rfl, rfl, trivial⟩ (by (exact Ent.auto)) ?_
  rintro k ⟨hk, hp, hq⟩
  by_cases h0 : k = 0
  · subst h0
    repeat' first
      | ((with_reducible refine Nx.is_wp ?_); first | refine Nx.wo ?_ | refine Nx.zp (fun hc => ?_) (fun hc => ?_))
      | (refine Nx.zo ?_; first | refine Nx.opr rfl rfl ?_ | refine Nx.indexAddr_nat (i := 0) rfl rfl rfl rfl rfl (by omega) rfl ?_ | refine Nx.load rfl rfl rfl (hI.rd (k := 0) (by simp)) ?_ | refine Nx.so ?_ | refine Nx.sb (fun bx => ?_) | refine Nx.sa (fun A2 c2 => ?_))
      | ((with_reducible refine Nx.is_at ?_); first | refine Nx.a ?_ | refine Nx.zd ?_ | refine Nx.zs (fun hc => ?_) (fun hc => ?_))
      | ((with_reducible refine Nx.is_mix ?_); first | refine Nx.m ?_ | refine Nx.zm ?_ | refine Nx.zt (fun hc => ?_) (fun hc => ?_))
      | refine Nx.zx ?_ | fail
    · exact Nx.ret_fn rfl [] ⟨by rw [if_pos (show p ≠ 0 from hc)]; rfl, rfl⟩ (by (exact Ent.auto))
    · exact Nx.again 1 ⟨by omega, fun _ => by simpa using hc, by omega⟩ (by omega) ⟨rfl, rfl, rfl, rfl, trivial⟩ (by (exact Ent.auto))
  · by_cases h1 : k = 1
    · subst h1
      have hp := hp (by omega)
      repeat' first
        | ((with_reducible refine Nx.is_wp ?_); first | refine Nx.wo ?_ | refine Nx.zp (fun hc => ?_) (fun hc => ?_))
        | (refine Nx.zo ?_; first | refine Nx.opr rfl rfl ?_ | refine Nx.indexAddr_nat (i := 1) rfl rfl rfl rfl rfl (by omega) rfl ?_ | refine Nx.load rfl rfl rfl (hI.rd (k := 1) (by simp)) ?_ | refine Nx.so ?_ | refine Nx.sb (fun bx => ?_) | refine Nx.sa (fun A2 c2 => ?_))
        | ((with_reducible refine Nx.is_at ?_); first | refine Nx.a ?_ | refine Nx.zd ?_ | refine Nx.zs (fun hc => ?_) (fun hc => ?_))
        | ((with_reducible refine Nx.is_mix ?_); first | refine Nx.m ?_ | refine Nx.zm ?_ | refine Nx.zt (fun hc => ?_) (fun hc => ?_))
        | refine Nx.zx ?_ | fail
      · exact Nx.ret_fn rfl [] ⟨by rw [if_neg (by omega)]; rfl, rfl⟩ (by (exact Ent.auto))
      · exact Nx.again 2 ⟨by omega, fun _ => hp, fun _ => by simpa using hc⟩ (by omega) ⟨rfl, rfl, rfl, rfl, trivial⟩ (by (exact Ent.auto))
    · have hk2 : k = 2 := by omega
      subst hk2
      have hp := hp (by omega)
      have hq := hq (by omega)
      repeat' first
        | ((with_reducible refine Nx.is_wp ?_); first | refine Nx.wo ?_ | refine Nx.zp (fun hc => ?_) (fun hc => ?_))
        | (refine Nx.zo ?_; first | refine Nx.opr rfl rfl ?_ | refine Nx.so ?_ | refine Nx.sb (fun bx => ?_) | refine Nx.sa (fun A2 c2 => ?_))
        | ((with_reducible refine Nx.is_at ?_); first | refine Nx.a ?_ | refine Nx.zd ?_ | refine Nx.zs (fun hc => ?_) (fun hc => ?_))
        | ((with_reducible refine Nx.is_mix ?_); first | refine Nx.m ?_ | refine Nx.zm ?_ | refine Nx.zt (fun hc => ?_) (fun hc => ?_))
        | refine Nx.zx ?_ | fail
      exact Nx.ret_fn rfl [] ⟨by rw [if_neg (by omega), hq], rfl⟩ (by (exact Ent.auto))
set_option maxHeartbeats 8000000 in
set_option maxRecDepth 10000 in
theorem compare_spec (x y : Shift) (I : PH) : FnSpec Tryz.prog 79 [shV x, shV y] I [] (fun v R' => v = .int .i64 (cmpSh x y) ∧ R' = []) := by
  refine FnSpec.enterP Tryz.func79 rfl Tryz.ntmps79 rfl fun w F => ?_
  repeat' first
    | ((with_reducible refine Nx.is_wp ?_); first | refine Nx.wo ?_ | refine Nx.p_drawF (id := 1) rfl [0, 1, 2, 3, 5, 6, 7, 8, 4] [4] [9, 10, 11, 12] _ rfl rfl (by kernel_rfl) (by kernel_rfl) rfl (by repeat first | exact PanicOk.fn | refine PanicOk.then_ ?_ | refine PanicOk.inB ?_) (Ent.refl _) ?_ | refine Nx.zp (fun hc => ?_) (fun hc => ?_))
    | (refine Nx.zo ?_; first | refine Nx.opr rfl rfl ?_ | refine Nx.callv rfl rfl rfl (by kernel_rfl) rfl (cmpI_spec _ _ I) ?_ | refine Nx.callv rfl rfl rfl (by kernel_rfl) rfl (cmpS_spec _ _ I) ?_ | (refine Nx.call_lendR 0 rfl rfl rfl (by kernel_rfl) rfl rfl (fun m I' hI hm h => or_spec _ _ _ _ I' (Blk.sliceOf (f := fun x : Int => Value.int .i64 x) (l := [rtcmpI x.2.1 y.2.1, cmpS x.1 y.1]) hm h (by simp [maxLen]))) ?_; rintro _ R' ⟨rfl, rfl⟩) | refine Nx.so ?_ | refine Nx.sb (fun bx => ?_) | refine Nx.sa (fun A2 c2 => ?_))
    | ((with_reducible refine Nx.is_at ?_); first | refine Nx.a ?_ | refine Nx.zd ?_ | refine Nx.zs (fun hc => ?_) (fun hc => ?_))
    | ((with_reducible refine Nx.is_mix ?_); first | refine Nx.m ?_ | refine Nx.zm ?_ | refine Nx.zt (fun hc => ?_) (fun hc => ?_))
    | refine Nx.zx ?_ | fail
  exact Nx.ret_fn rfl [] ⟨rfl, rfl⟩ (by (exact Ent.auto))
end Go.Proofs.YtjnhoemgceghlaaGreat
/- Contracts of functions of the given program, and lemmas about plain lists and numbers: what the laws of this seat lean on. -/
namespace Go.Proofs.YtjnhoemgceghlaaGreat
open Go.Eng
attribute [local irreducible] opK wpList Code.wp Exit.then Exit.inBlock fnPost bodyPost Nx Calls Oper.wp Rd Rds Wr Ent Stars Blk Again Vec FnSpec wpMix QRun Stop Upto wpAt
def singleE (x : Shift) : Int := if nameB x.1 = true then (if properB x = true then 0 else 43) else 3
set_option maxHeartbeats 8000000 in
set_option maxRecDepth 10000 in
theorem single_spec (x : Shift) (hx : shOk x) (I : PH) : FnSpec Tryz.prog 78 [shV x] I [] (fun v R' => v = .int .i64 (singleE x) ∧ R' = []) := by
  by_cases hn : nameB x.1 = true
  · by_cases hp : properB x = true
    · have hp' := of_decide_eq_true hp
      have e : singleE x = 0 := by unfold singleE; rw [if_pos hn, if_pos hp]
      rw [e]
      refine FnSpec.enterP Tryz.func78 rfl Tryz.ntmps78 rfl fun w F => ?_
      repeat' first
        | ((with_reducible refine Nx.is_wp ?_); first | refine Nx.wo ?_ | refine Nx.zp (fun hc => ?_) (fun hc => ?_))
        | (refine Nx.zo ?_; first | refine Nx.opr rfl rfl ?_ | refine Nx.callv rfl rfl rfl (by kernel_rfl) rfl (Name_spec x.1 hx.1 I) ?_ | refine Nx.so ?_ | refine Nx.sb (fun bx => ?_) | refine Nx.sa (fun A2 c2 => ?_))
        | ((with_reducible refine Nx.is_at ?_); first | refine Nx.a ?_ | refine Nx.zd ?_ | refine Nx.zs (fun hc => ?_) (fun hc => ?_))
        | ((with_reducible refine Nx.is_mix ?_); first | refine Nx.m ?_ | refine Nx.zm ?_ | refine Nx.zt (fun hc => ?_) (fun hc => ?_))
        | refine Nx.zx ?_ | fail
      all_goals first | exact Nx.ret_fn rfl [] ⟨rfl, rfl⟩ (by (exact Ent.auto)) | (exfalso; simp_all; done)
    · have hp0 : properB x = false := by simpa using hp
      have hp' := of_decide_eq_false hp0
      have e : singleE x = 43 := by unfold singleE; rw [if_pos hn, if_neg hp]
      rw [e]
      refine FnSpec.enterP Tryz.func78 rfl Tryz.ntmps78 rfl fun w F => ?_
      repeat' first
        | ((with_reducible refine Nx.is_wp ?_); first | refine Nx.wo ?_ | refine Nx.zp (fun hc => ?_) (fun hc => ?_))
        | (refine Nx.zo ?_; first | refine Nx.opr rfl rfl ?_ | refine Nx.callv rfl rfl rfl (by kernel_rfl) rfl (Name_spec x.1 hx.1 I) ?_ | refine Nx.so ?_ | refine Nx.sb (fun bx => ?_) | refine Nx.sa (fun A2 c2 => ?_))
        | ((with_reducible refine Nx.is_at ?_); first | refine Nx.a ?_ | refine Nx.zd ?_ | refine Nx.zs (fun hc => ?_) (fun hc => ?_))
        | ((with_reducible refine Nx.is_mix ?_); first | refine Nx.m ?_ | refine Nx.zm ?_ | refine Nx.zt (fun hc => ?_) (fun hc => ?_))
        | refine Nx.zx ?_ | fail
      all_goals first | exact Nx.ret_fn rfl [] ⟨rfl, rfl⟩ (by (exact Ent.auto)) | (exfalso; simp_all; done)
  · have e : singleE x = 3 := by unfold singleE; rw [if_neg hn]
    rw [e]
    refine FnSpec.enterP Tryz.func78 rfl Tryz.ntmps78 rfl fun w F => ?_
    repeat' first
      | ((with_reducible refine Nx.is_wp ?_); first | refine Nx.wo ?_ | refine Nx.zp (fun hc => ?_) (fun hc => ?_))
      | (refine Nx.zo ?_; first | refine Nx.opr rfl rfl ?_ | refine Nx.callv rfl rfl rfl (by kernel_rfl) rfl (Name_spec x.1 hx.1 I) ?_ | refine Nx.so ?_ | refine Nx.sb (fun bx => ?_) | refine Nx.sa (fun A2 c2 => ?_))
      | ((with_reducible refine Nx.is_at ?_); first | refine Nx.a ?_ | refine Nx.zd ?_ | refine Nx.zs (fun hc => ?_) (fun hc => ?_))
      | ((with_reducible refine Nx.is_mix ?_); first | refine Nx.m ?_ | refine Nx.zm ?_ | refine Nx.zt (fun hc => ?_) (fun hc => ?_))
      | refine Nx.zx ?_ | fail
    all_goals first | exact Nx.ret_fn rfl [] ⟨rfl, rfl⟩ (by (exact Ent.auto)) | (exfalso; simp_all; done)
set_option maxHeartbeats 8000000 in
set_option maxRecDepth 10000 in
theorem meet_spec (b : Nat) (x y : Shift) (I : PH) (hb : ∀ (W : World) (R : List Res) (k : Nat) (v : Value), nthL (shC x) k = some v → Rd W I R ⟨b, k, none⟩ v) :
    FnSpec Tryz.prog 104 [shV y, .pointer (some ⟨b, 0, none⟩)] I [] (fun v R' => v = .bool (meetB y x) ∧ R' = []) := by
  refine FnSpec.enterP Tryz.func104 rfl Tryz.ntmps104 rfl fun w F => ?_
  repeat' first
    | ((with_reducible refine Nx.is_wp ?_); first | refine Nx.wo ?_ | refine Nx.zp (fun hc => ?_) (fun hc => ?_))
    | (refine Nx.zo ?_; first | refine Nx.opr rfl rfl ?_ | refine Nx.load rfl rfl rfl (hb _ _ 0 _ rfl) ?_ | refine Nx.load rfl rfl rfl (hb _ _ 1 _ rfl) ?_ | refine Nx.load rfl rfl rfl (hb _ _ 2 _ rfl) ?_ | refine Nx.binr rfl rfl run_eql_s rfl ?_ | refine Nx.so ?_ | refine Nx.sb (fun bx => ?_) | refine Nx.sa (fun A2 c2 => ?_))
    | ((with_reducible refine Nx.is_at ?_); first | refine Nx.a ?_ | refine Nx.zd ?_ | refine Nx.zs (fun hc => ?_) (fun hc => ?_))
    | ((with_reducible refine Nx.is_mix ?_); first | refine Nx.m ?_ | refine Nx.zm ?_ | refine Nx.zt (fun hc => ?_) (fun hc => ?_))
    | refine Nx.zx ?_ | fail
  all_goals exact Nx.ret_fn rfl [] ⟨by unfold meetB; first | (simp_all; done) | (simp_all; omega), rfl⟩ (by (exact Ent.auto))
set_option maxHeartbeats 8000000 in
set_option maxRecDepth 10000 in
theorem IndexSh_spec (f : FuncId) (cap : List Value) (p : Shift → Bool) (A : Option Addr) (cp : Nat) (l : List Shift) (I : PH) (hl : Shifts I A cp l) (hcall : callable Tryz.prog f = true)
    (hp : ∀ x ∈ l, FnSpec Tryz.prog f (shV x :: cap) I [] (fun v R' => v = .bool (p x) ∧ R' = [])) :
    FnSpec Tryz.prog 127 [.slice A l.length cp, .func (.func f) #[] cap.toArray] I []
      (fun v R' => ∃ i : Int, v = .int .i64 i ∧ (decide (0 ≤ i) = l.any p) ∧ R' = []) := by
  refine FnSpec.enterP Tryz.func127 rfl Tryz.ntmps127 rfl fun w F => ?_
  repeat' first
    | ((with_reducible refine Nx.is_wp ?_); first | refine Nx.wo ?_ | refine Nx.zp (fun hc => ?_) (fun hc => ?_))
    | (refine Nx.zo ?_; first | refine Nx.opr rfl rfl ?_ | refine Nx.so ?_ | refine Nx.sb (fun bx => ?_) | refine Nx.sa (fun A2 c2 => ?_))
    | ((with_reducible refine Nx.is_at ?_); first | refine Nx.a ?_ | refine Nx.zd ?_ | refine Nx.zs (fun hc => ?_) (fun hc => ?_))
    | ((with_reducible refine Nx.is_mix ?_); first | refine Nx.m ?_ | refine Nx.zm ?_ | refine Nx.zt (fun hc => ?_) (fun hc => ?_))
    | refine Nx.zx ?_ | fail
  have hlen := hl.len
  refine Nx.p_loop (σ := Nat) (fun k => [(0, .slice A l.length cp), (1, .func (.func f) #[] cap.toArray), (7, .int .i64 l.length), (8, .int .i64 (k : Int))])
    (fun _ => [F]) (fun k => k ≤ l.length ∧ (l.take k).any p = false) (fun k => l.length - k) 0 rfl ⟨Nat.zero_le _, by simp⟩ ⟨rfl, rfl, rfl, rfl, trivial⟩ (Ent.refl _) ?_
  rintro k ⟨hk, hnone⟩
  by_cases hlt : k < l.length
  · have hmem : l.getD k default ∈ l := by rw [List.getD_eq_getElem?_getD, List.getElem?_eq_getElem hlt]; exact List.getElem_mem _
    repeat' first
      | ((with_reducible refine Nx.is_wp ?_); first | refine Nx.wo ?_ | refine Nx.zp (fun hc => ?_) (fun hc => ?_))
      | (refine Nx.zo ?_; first | refine Nx.opr rfl rfl ?_ | refine Nx.indexAddr_nat rfl rfl rfl rfl rfl (by omega) (hl.isSome (by omega) (by omega)) ?_ | refine Nx.loads rfl rfl rfl rfl (hl.rds (by omega)) rfl ?_ | refine Nx.callv rfl rfl (by simp; rfl) hcall rfl (hp _ hmem) ?_ | refine Nx.so ?_ | refine Nx.sb (fun bx => ?_) | refine Nx.sa (fun A2 c2 => ?_))
      | ((with_reducible refine Nx.is_at ?_); first | refine Nx.a ?_ | refine Nx.zd ?_ | refine Nx.zs (fun hc => ?_) (fun hc => ?_))
      | ((with_reducible refine Nx.is_mix ?_); first | refine Nx.m ?_ | refine Nx.zm ?_ | refine Nx.zt (fun hc => ?_) (fun hc => ?_))
      | refine Nx.zx ?_ | fail
    · refine Nx.ret_fn rfl [] ⟨_, rfl, ?_, rfl⟩ (Ent.refl _)
      rw [show decide ((0 : Int) ≤ k) = true by simp, Eq.comm, List.any_eq_true]
      exact ⟨l.getD k default, hmem, hc⟩
    · refine Nx.again (k + 1) ⟨by omega, ?_⟩ (by omega) ⟨rfl, rfl, rfl, rfl, trivial⟩ (Ent.refl _)
      rw [List.take_succ_eq_append_getElem (by omega), List.any_append, hnone]
      have : l[k]'(by omega) = l.getD k default := by rw [List.getD_eq_getElem?_getD, List.getElem?_eq_getElem (by omega)]; rfl
      simp only [this, List.any_cons, List.any_nil, hc, Bool.or_self]
  · obtain rfl : k = l.length := by omega
    repeat' first
      | ((with_reducible refine Nx.is_wp ?_); first | refine Nx.wo ?_ | refine Nx.zp (fun hc => ?_) (fun hc => ?_))
      | (refine Nx.zo ?_; first | refine Nx.opr rfl rfl ?_ | refine Nx.so ?_ | refine Nx.sb (fun bx => ?_) | refine Nx.sa (fun A2 c2 => ?_))
      | ((with_reducible refine Nx.is_at ?_); first | refine Nx.a ?_ | refine Nx.zd ?_ | refine Nx.zs (fun hc => ?_) (fun hc => ?_))
      | ((with_reducible refine Nx.is_mix ?_); first | refine Nx.m ?_ | refine Nx.zm ?_ | refine Nx.zt (fun hc => ?_) (fun hc => ?_))
      | refine Nx.zx ?_ | fail
    refine Nx.ret_fn rfl [] ⟨_, rfl, ?_, rfl⟩ (Ent.refl _)
    rw [List.take_length] at hnone
    rw [hnone]; rfl
set_option maxHeartbeats 8000000 in
set_option maxRecDepth 10000 in
theorem ContainsSh_spec (f : FuncId) (cap : List Value) (p : Shift → Bool) (A : Option Addr) (cp : Nat) (l : List Shift) (I : PH) (hl : Shifts I A cp l) (hcall : callable Tryz.prog f = true)
    (hp : ∀ x ∈ l, FnSpec Tryz.prog f (shV x :: cap) I [] (fun v R' => v = .bool (p x) ∧ R' = [])) :
    FnSpec Tryz.prog 103 [.slice A l.length cp, .func (.func f) #[] cap.toArray] I []
      (fun v R' => v = .bool (l.any p) ∧ R' = []) := by
  refine FnSpec.enterP Tryz.func103 rfl Tryz.ntmps103 rfl fun w F => ?_
  repeat' first
    | ((with_reducible refine Nx.is_wp ?_); first | refine Nx.wo ?_ | refine Nx.zp (fun hc => ?_) (fun hc => ?_))
    | (refine Nx.zo ?_; first | refine Nx.opr rfl rfl ?_ | refine Nx.so ?_ | refine Nx.sb (fun bx => ?_) | refine Nx.sa (fun A2 c2 => ?_))
    | ((with_reducible refine Nx.is_at ?_); first | refine Nx.a ?_ | refine Nx.zd ?_ | refine Nx.zs (fun hc => ?_) (fun hc => ?_))
    | ((with_reducible refine Nx.is_mix ?_); first | refine Nx.m ?_ | refine Nx.zm ?_ | refine Nx.zt (fun hc => ?_) (fun hc => ?_))
    | refine Nx.zx ?_ | fail
  refine Nx.at_op rfl rfl ?_
  refine Nx.call rfl rfl rfl (by kernel_rfl) rfl (IndexSh_spec f cap p A cp l I hl hcall hp) (Ent.refl _) ?_
  rintro v R' ⟨i, rfl, hi, rfl⟩
  repeat' first
    | ((with_reducible refine Nx.is_wp ?_); first | refine Nx.wo ?_ | refine Nx.zp (fun hc => ?_) (fun hc => ?_))
    | (refine Nx.zo ?_; first | refine Nx.opr rfl rfl ?_ | refine Nx.so ?_ | refine Nx.sb (fun bx => ?_) | refine Nx.sa (fun A2 c2 => ?_))
    | ((with_reducible refine Nx.is_at ?_); first | refine Nx.a ?_ | refine Nx.zd ?_ | refine Nx.zs (fun hc => ?_) (fun hc => ?_))
    | ((with_reducible refine Nx.is_mix ?_); first | refine Nx.m ?_ | refine Nx.zm ?_ | refine Nx.zt (fun hc => ?_) (fun hc => ?_))
    | refine Nx.zx ?_ | fail
  exact Nx.ret_fn rfl [] ⟨by rw [← hi], rfl⟩ (Ent.refl _)
set_option maxHeartbeats 8000000 in
set_option maxRecDepth 10000 in
theorem overlaps_spec (A : Option Addr) (c : Nat) (l : List Shift) (x : Shift) (I : PH) (hl : Shifts I A c l) :
    FnSpec Tryz.prog 80 [.slice A l.length c, shV x] I [] (fun v R' => v = .bool (meetsB l x) ∧ R' = []) := by
  refine FnSpec.enterP Tryz.func80 rfl Tryz.ntmps80 rfl fun w F => ?_
  repeat' first
    | ((with_reducible refine Nx.is_wp ?_); first | refine Nx.wo ?_ | refine Nx.zp (fun hc => ?_) (fun hc => ?_))
    | (refine Nx.zo ?_; first | refine Nx.opr rfl rfl ?_ | refine Nx.so ?_ | refine Nx.sb (fun bx => ?_) | refine Nx.sa (fun A2 c2 => ?_))
    | ((with_reducible refine Nx.is_at ?_); first | refine Nx.a ?_ | refine Nx.zd ?_ | refine Nx.zs (fun hc => ?_) (fun hc => ?_))
    | ((with_reducible refine Nx.is_mix ?_); first | refine Nx.m ?_ | refine Nx.zm ?_ | refine Nx.zt (fun hc => ?_) (fun hc => ?_))
    | refine Nx.zx ?_ | fail
  refine Nx.freezeAt 0 rfl fun I1 m1 hI1 hm1 h1 => ?_
  have hb : ∀ (W : World) (R : List Res) (k : Nat) (v : Value), nthL (shC x) k = some v → Rd W I1 R ⟨bx, k, none⟩ v := fun W R k v hk => by
    exact Rd.imm (cellH_mono hm1 (Blk.cell h1 hk))
  repeat' first
    | ((with_reducible refine Nx.is_wp ?_); first | refine Nx.wo ?_ | refine Nx.zp (fun hc => ?_) (fun hc => ?_))
    | (refine Nx.zo ?_; first | refine Nx.opr rfl rfl ?_ | refine Nx.callv rfl rfl rfl (by kernel_rfl) rfl (ContainsSh_spec 104 [.pointer (some ⟨bx, 0, none⟩)] (fun y => meetB y x) A c l I1 (hl.mono hI1) (by kernel_rfl) (fun y _ => meet_spec bx x y I1 hb)) ?_ | refine Nx.so ?_ | refine Nx.sb (fun bx => ?_) | refine Nx.sa (fun A2 c2 => ?_))
    | ((with_reducible refine Nx.is_at ?_); first | refine Nx.a ?_ | refine Nx.zd ?_ | refine Nx.zs (fun hc => ?_) (fun hc => ?_))
    | ((with_reducible refine Nx.is_mix ?_); first | refine Nx.m ?_ | refine Nx.zm ?_ | refine Nx.zt (fun hc => ?_) (fun hc => ?_))
    | refine Nx.zx ?_ | fail
  exact Nx.imm_le hI1 (Nx.ret_fn rfl [] ⟨rfl, rfl⟩ (by (exact Ent.auto)))
end Go.Proofs.YtjnhoemgceghlaaGreat
