/- Contracts of functions of the given program, and lemmas about plain lists and numbers: what the laws of this seat lean on. -/
import Derived.Scope
import Derived.Laws.MakeOwn
import Derived.Test.YtpdgnjoideppjaaDoorLk4
namespace Go.Proofs.YtpdgnjoideppjaaDoor
open Go.Eng Go.Det
attribute [local irreducible] opK wpList Code.wp Exit.then Exit.inBlock fnPost bodyPost Nx Calls Oper.wp Rd Rds Wr Ent Stars Blk Again Vec FnSpec wpMix QRun Stop Upto wpAt
/-! A column replaced -/
def repL (m : List (List Int)) (j : Nat) (b : List Int) : List (List Int) := (List.range m.length).map fun i => (m.getD i []).set j (b.getD i 0)
abbrev intsR (A : Option Addr) (c : Nat) (l : List Int) : Res := Vec 3 1 A l.length c (l.map (Value.int .i64))
abbrev rowR (r : Row) : Res := intsR r.1 r.2.1 r.2.2
/-- What a function that makes a matrix leaves. -/
def matPost (m : List (List Int)) (u : Value) (R' : List Res) : Prop := ∃ (A' : Option Addr) (c' : Nat) (o : List Row), u = .slice A' o.length c' ∧ matL o = m ∧ R' = [Vec 28 1 A' o.length c' (o.map rowV), Stars (o.map rowR)]
theorem mat_given {I : PH} {A : Option Addr} {c : Nat} {o : List Row} {m1 m2 : PH} (hm1 : PH.le m1 I) (h1 : Vec 28 1 A o.length c (o.map rowV) m1) (hm2 : PH.le m2 I) (h2 : Stars (o.map rowR) m2) : Mat I A c o := by
  refine ⟨Vec.sliceOf hm1 h1, fun x hx => ?_⟩
  obtain ⟨k, hk, rfl⟩ := List.mem_iff_getElem.1 hx
  obtain ⟨m', hle, hr⟩ := Stars.get k h2 (r := rowR o[k]) (by rw [nthL_eq, List.getElem?_map, List.getElem?_eq_getElem hk]; rfl)
  exact Vec.sliceOf (t := 3) (hle.trans hm2) hr
theorem nil_rows (n : Nat) {R : List Res} : Ent R (Stars ((List.replicate n ((none, 0, []) : Row)).map rowR) :: R) := by
  induction n with
  | zero => exact Ent.stars_nil _
  | succ n ih =>
    rw [List.replicate_succ']
    rw [List.map_append]
    exact ih.trans ((Ent.vec_nil _ _ _).trans Ent.bundle)
set_option maxRecDepth 10000 in
set_option maxHeartbeats 4000000 in
theorem replaced_spec (A : Option Addr) (c : Nat) (v : List Row) (I : PH) (hm : Mat I A c v) (hsq : ∀ k, k < v.length → (v.getD k default).2.2.length = v.length) (h9 : v.length ≤ 1000) (j : Nat) (hj : j < v.length) (B : Option Addr) (cb : Nat) (b : List Int) (hb : Ints I B cb b) (hbl : b.length = v.length) :
    FnSpec Tryd.prog 23 [.slice A v.length c, .int .i64 (j : Int), .slice B b.length cb] I [] (matPost (repL (matL v) j b)) := by
  have hlen := hm.outer.len
  refine FnSpec.enterP Tryd.func23 rfl Tryd.ntmps23 rfl fun w F => ?_
  repeat' first
    | ((with_reducible refine Nx.is_wp ?_); first | refine Nx.wo ?_ | refine Nx.p_dec rfl rfl (fun hc => ?_) (fun hc => ?_) | refine Nx.p_bool rfl rfl (fun hc => ?_) (fun hc => ?_))
    | ((first | refine Nx.at_op rfl rfl ?_ | refine Nx.m_loud rfl rfl rfl ?_ | refine Nx.at_do rfl rfl rfl rfl ?_ | refine Nx.m_loud_do rfl rfl rfl rfl rfl ?_); first | refine Nx.opr rfl rfl ?_ | refine Nx.makeSlice (by_ := 24) rfl rfl rfl rfl rfl rfl rfl rfl rfl (by omega) (by unfold maxLen; omega) (fun bx => ?_) | refine Nx.so ?_ | refine Nx.sb (fun bx => ?_) | refine Nx.sa (fun A2 c2 => ?_))
    | ((with_reducible refine Nx.is_at ?_); first | refine Nx.a ?_ | ((fail_if_success refine Nx.at_do rfl rfl rfl rfl ?_); first | refine Nx.at_dec_t rfl rfl rfl rfl (by first | assumption | omega) ?_ | refine Nx.at_dec_f rfl rfl rfl rfl (by first | assumption | omega) ?_ | refine Nx.at_split rfl rfl rfl rfl (fun hc => ?_) (fun hc => ?_) | refine Nx.at_splitb rfl rfl rfl rfl (fun hc => ?_) (fun hc => ?_)))
    | ((with_reducible refine Nx.is_mix ?_); first | refine Nx.m ?_ | ((fail_if_success refine Nx.m_quiet_do rfl rfl rfl rfl rfl rfl rfl ?_ ?_); (fail_if_success refine Nx.m_loud_do rfl rfl rfl rfl rfl ?_); first | refine Nx.m_dec_t rfl rfl rfl rfl (by first | assumption | omega) ?_ | refine Nx.m_dec_f rfl rfl rfl rfl (by first | assumption | omega) ?_ | refine Nx.m_split rfl rfl rfl rfl (fun hc => ?_) (fun hc => ?_) | refine Nx.m_splitb rfl rfl rfl rfl (fun hc => ?_) (fun hc => ?_)))
    | ((fail_if_success (with_reducible refine Nx.is_at ?_)); (fail_if_success (with_reducible refine Nx.is_wp ?_)); (fail_if_success (with_reducible refine Nx.is_mix ?_)); first | refine Nx.ex ?_)
  revert bx; intro bA
  refine Nx.ent (R' := [Vec 28 1 (some ⟨bA, 0, none⟩) v.length v.length ((List.replicate v.length (none, 0, [])).map rowV), Stars ((List.replicate v.length (none, 0, [])).map rowR), F]) (by rw [List.map_replicate]; exact Ent.pick 0 rfl ((nil_rows v.length).trans (by (exact Ent.auto)))) ?_
  refine Nx.p_loop (σ := Nat × List Row) (fun x => [(1, .int .i64 (j : Int)), (2, .slice B b.length cb), (7, .slice (some ⟨bA, 0, none⟩) v.length v.length), (13, .slice A v.length c), (14, .int .i64 v.length), (15, .int .i64 (x.1 : Int))])
    (fun x => [Vec 28 1 (some ⟨bA, 0, none⟩) v.length v.length (x.2.map rowV), Stars (x.2.map rowR), F]) (fun x => x.1 ≤ v.length ∧ x.2.length = v.length ∧ (∀ i, i < x.1 → (x.2.getD i default).2.2 = (v.getD i default).2.2.set j (b.getD i 0)) ∧ ∀ i, x.1 ≤ i → i < v.length → x.2.getD i default = (none, 0, [])) (fun x => v.length - x.1) (0, List.replicate v.length (none, 0, [])) rfl ⟨Nat.zero_le _, by simp, fun i hi => absurd hi (Nat.not_lt_zero _), fun i _ hi => by rw [List.getD_eq_getElem?_getD, List.getElem?_replicate, if_pos hi]; rfl⟩ ⟨rfl, rfl, rfl, rfl, rfl, rfl, trivial⟩ (by (exact Ent.auto)) ?_
  rintro ⟨k, o⟩ ⟨hk, hol, hdone, hnil⟩
  dsimp only at hk hol hdone hnil ⊢
  by_cases hlt : k < v.length
  · have hrl := hsq k hlt
    have hr := hm.rows _ (row_mem hlt)
    have hk0 := hnil k (Nat.le_refl _) hlt
    have hdk := hdone
    generalize hrow' : (v.getD k default) = rw' at hrl hr
    obtain ⟨Al, cl, l⟩ := rw'
    dsimp only at hrl hr
    have hmr : ∀ (W : World) (R : List Res), Rd W I R ((ad A).add (k * 1)) (.slice Al v.length cl) := fun W R => by
      have := hm.outer.rd (W := W) (R := R) (k := k) hlt
      rw [hrow', show rowV (Al, cl, l) = .slice Al v.length cl by rw [← hrl]; rfl] at this
      exact this
    have hget : (o.map rowR)[k]? = some (rowR (none, 0, [])) := by
      rw [List.getElem?_map, List.getElem?_eq_getElem (by omega)]
      rw [List.getD_eq_getElem?_getD, List.getElem?_eq_getElem (by omega)] at hk0
      rw [show o[k] = (none, 0, []) from hk0]; rfl
    have hbx := hb.rd (k := k) (by omega) (W := w) (R := [])
    have hbr : ∀ (W : World) (R : List Res), Rd W I R ((ad B).add (k * 1)) (.int .i64 (b.getD k default)) := fun W R => hb.rd (by omega)
    have hBs := hb.isSome (by omega)
    refine Nx.ent (R' := [Stars (o.map rowR), Vec 28 1 (some ⟨bA, 0, none⟩) v.length v.length (o.map rowV), F]) (by (exact Ent.auto)) ?_
    refine Nx.ent (Ent.takeOut k hget) ?_
    refine Nx.ent (R' := [Vec 3 1 none 0 0 [], Stars ((o.map rowR).eraseIdx k), Vec 28 1 (some ⟨bA, 0, none⟩) v.length v.length (o.map rowV), F]) (by (exact Ent.auto)) ?_
    repeat' first
      | ((with_reducible refine Nx.is_wp ?_); first | refine Nx.wo ?_ | refine Nx.p_dec rfl rfl (fun hc => ?_) (fun hc => ?_) | refine Nx.p_bool rfl rfl (fun hc => ?_) (fun hc => ?_))
      | ((first | refine Nx.at_op rfl rfl ?_ | refine Nx.m_loud rfl rfl rfl ?_ | refine Nx.at_do rfl rfl rfl rfl ?_ | refine Nx.m_loud_do rfl rfl rfl rfl rfl ?_); first | refine Nx.opr rfl rfl ?_ | refine Nx.indexAddr_nat rfl rfl rfl rfl rfl (by omega) (hm.outer.isSome (by omega)) ?_ | refine Nx.load rfl rfl rfl (hmr _ _) ?_ | (refine Nx.append rfl rfl rfl rfl (by kernel_rfl) rfl (Src.arr hr.arr (by simp [hrl]) (by omega) (fun u hu => by obtain ⟨z, _, rfl⟩ := List.mem_map.1 hu; rfl)) (by omega) (fun A8 c8 => ?_); rw [Nat.zero_add, List.nil_append]) | refine Nx.indexAddr_nat rfl rfl rfl rfl rfl (by omega) rfl ?_ | refine Nx.store_of 2 rowV (z := (A8, c8, l)) rfl (by rw [show rowV (A8, c8, l) = .slice A8 v.length c8 by rw [← hrl]; rfl]; rfl) rfl rfl rfl rfl (by omega) ?_ | refine Nx.so ?_ | refine Nx.sb (fun bx => ?_) | refine Nx.sa (fun A2 c2 => ?_))
      | ((with_reducible refine Nx.is_at ?_); first | refine Nx.a ?_ | ((fail_if_success refine Nx.at_do rfl rfl rfl rfl ?_); first | refine Nx.at_dec_t rfl rfl rfl rfl (by first | assumption | omega) ?_ | refine Nx.at_dec_f rfl rfl rfl rfl (by first | assumption | omega) ?_ | refine Nx.at_split rfl rfl rfl rfl (fun hc => ?_) (fun hc => ?_) | refine Nx.at_splitb rfl rfl rfl rfl (fun hc => ?_) (fun hc => ?_)))
      | ((with_reducible refine Nx.is_mix ?_); first | refine Nx.m ?_ | ((fail_if_success refine Nx.m_quiet_do rfl rfl rfl rfl rfl rfl rfl ?_ ?_); (fail_if_success refine Nx.m_loud_do rfl rfl rfl rfl rfl ?_); first | refine Nx.m_dec_t rfl rfl rfl rfl (by first | assumption | omega) ?_ | refine Nx.m_dec_f rfl rfl rfl rfl (by first | assumption | omega) ?_ | refine Nx.m_split rfl rfl rfl rfl (fun hc => ?_) (fun hc => ?_) | refine Nx.m_splitb rfl rfl rfl rfl (fun hc => ?_) (fun hc => ?_)))
      | ((fail_if_success (with_reducible refine Nx.is_at ?_)); (fail_if_success (with_reducible refine Nx.is_wp ?_)); (fail_if_success (with_reducible refine Nx.is_mix ?_)); first | refine Nx.ex ?_)
    have hV : (o.set k (A8, c8, l)).map rowV = (o.set k (A8, c8, l.set j (b.getD k default))).map rowV := by
      rw [List.map_set, List.map_set]
      congr 1
      unfold rowV; dsimp only; rw [List.length_set]
    have hS : (o.set k (A8, c8, l.set j (b.getD k default))).map rowR = (o.map rowR).set k (rowR (A8, c8, l.set j (b.getD k default))) := List.map_set
    have hok : (o.set k (A8, c8, l)).getD k default = (A8, c8, l) := by rw [List.getD_eq_getElem?_getD, List.getElem?_set_self (by omega)]; rfl
    refine Nx.ent (R' := [Vec 3 1 A8 v.length c8 (l.map (Value.int .i64)), Vec 28 1 (some ⟨bA, 0, none⟩) v.length v.length ((o.set k (A8, c8, l)).map rowV), Stars ((o.map rowR).eraseIdx k), F]) (by (exact Ent.auto)) ?_
    refine Nx.vec_fact fun hv1 hv2 hv3 hA8 => ?_
    have hrd8 : ∀ (W : World) (R : List Res) (r0 : Res), Rd W I (r0 :: Vec 28 1 (some ⟨bA, 0, none⟩) v.length v.length ((o.set k (A8, c8, l)).map rowV) :: R) ((ad (some ⟨bA, 0, none⟩)).add (k * 1)) (.slice A8 v.length c8) := fun W R r0 => by
      have := Rd.vecEl (W := W) (I := I) (R := r0 :: Vec 28 1 (some ⟨bA, 0, none⟩) v.length v.length ((o.set k (A8, c8, l)).map rowV) :: R) 1 (f := rowV) (l := o.set k (A8, c8, l)) (i := k) rfl (by rw [List.length_set]; omega)
      rw [hok, show rowV (A8, c8, l) = .slice A8 v.length c8 by rw [← hrl]; rfl] at this
      exact this
    repeat' first
      | ((with_reducible refine Nx.is_wp ?_); first | refine Nx.wo ?_ | refine Nx.p_drawF (id := 6) rfl [0, 1, 2, 3, 4, 5, 6, 7, 8, 9] [] [10] _ rfl rfl (by kernel_rfl) (by kernel_rfl) rfl (by repeat first | exact PanicOk.fn | refine PanicOk.then_ ?_ | refine PanicOk.inB ?_) (Ent.refl _) ?_ | refine Nx.p_dec rfl rfl (fun hc => ?_) (fun hc => ?_) | refine Nx.p_bool rfl rfl (fun hc => ?_) (fun hc => ?_))
      | ((first | refine Nx.at_op rfl rfl ?_ | refine Nx.m_loud rfl rfl rfl ?_ | refine Nx.at_do rfl rfl rfl rfl ?_ | refine Nx.m_loud_do rfl rfl rfl rfl rfl ?_); first | refine Nx.opr rfl rfl ?_ | refine Nx.store_of 0 (Value.int .i64) rfl rfl rfl rfl rfl rfl (by omega) ?_ | refine Nx.so ?_ | refine Nx.sb (fun bx => ?_) | refine Nx.sa (fun A2 c2 => ?_))
      | ((with_reducible refine Nx.is_at ?_); first | refine Nx.a ?_ | ((fail_if_success refine Nx.at_do rfl rfl rfl rfl ?_); first | refine Nx.at_dec_t rfl rfl rfl rfl (by first | assumption | omega) ?_ | refine Nx.at_dec_f rfl rfl rfl rfl (by first | assumption | omega) ?_ | refine Nx.at_split rfl rfl rfl rfl (fun hc => ?_) (fun hc => ?_) | refine Nx.at_splitb rfl rfl rfl rfl (fun hc => ?_) (fun hc => ?_)))
      | ((with_reducible refine Nx.is_mix ?_); first | refine Nx.m_quiet rfl rfl rfl rfl rfl (by first | exact QRun.opr rfl | exact QRun.idx rfl rfl rfl rfl (by omega) rfl | exact QRun.idx rfl rfl rfl rfl (by omega) hBs | exact QRun.idx rfl rfl rfl rfl (by omega) (hA8 (by omega)) | exact QRun.load rfl rfl (hrd8 _ _ _) | exact QRun.load rfl rfl (hbr _ _)) ?_ | refine Nx.m_quiet_do rfl rfl rfl rfl rfl rfl rfl (by first | exact QRun.opr rfl | exact QRun.idx rfl rfl rfl rfl (by omega) rfl | exact QRun.idx rfl rfl rfl rfl (by omega) hBs | exact QRun.idx rfl rfl rfl rfl (by omega) (hA8 (by omega)) | exact QRun.load rfl rfl (hrd8 _ _ _) | exact QRun.load rfl rfl (hbr _ _)) ?_ | refine Nx.m ?_ | ((fail_if_success refine Nx.m_quiet_do rfl rfl rfl rfl rfl rfl rfl ?_ ?_); (fail_if_success refine Nx.m_loud_do rfl rfl rfl rfl rfl ?_); first | refine Nx.m_dec_t rfl rfl rfl rfl (by first | assumption | omega) ?_ | refine Nx.m_dec_f rfl rfl rfl rfl (by first | assumption | omega) ?_ | refine Nx.m_split rfl rfl rfl rfl (fun hc => ?_) (fun hc => ?_) | refine Nx.m_splitb rfl rfl rfl rfl (fun hc => ?_) (fun hc => ?_)))
      | ((fail_if_success (with_reducible refine Nx.is_at ?_)); (fail_if_success (with_reducible refine Nx.is_wp ?_)); (fail_if_success (with_reducible refine Nx.is_mix ?_)); first | refine Nx.ex ?_)
    have hl' : (l.set j (b.getD k default)).length = v.length := by rw [List.length_set]; exact hrl
    refine Nx.again (k + 1, o.set k (A8, c8, l.set j (b.getD k default))) ⟨hlt, by dsimp only; rw [List.length_set]; exact hol, fun i hi => ?_, fun i hi1 hi2 => ?_⟩ (by dsimp only; omega) ⟨rfl, rfl, rfl, rfl, rfl, rfl, trivial⟩ ?_
    · dsimp only at hi ⊢
      by_cases hik : i = k
      · subst hik
        rw [List.getD_eq_getElem?_getD, List.getElem?_set_self (by omega), hrow']
        rfl
      · rw [List.getD_eq_getElem?_getD, List.getElem?_set_ne (Ne.symm hik), ← List.getD_eq_getElem?_getD]
        exact hdone i (by omega)
    · dsimp only at hi1 ⊢
      rw [List.getD_eq_getElem?_getD, List.getElem?_set_ne (by omega), ← List.getD_eq_getElem?_getD]
      exact hnil i (by omega) hi2
    · dsimp only
      rw [← hV, hS]
      refine Ent.trans (R' := [rowR (A8, c8, l.set j (b.getD k default)), Stars ((o.map rowR).eraseIdx k), Vec 28 1 (some ⟨bA, 0, none⟩) v.length v.length ((o.set k (A8, c8, l)).map rowV), F]) (by unfold rowR intsR; dsimp only; rw [hl']; (exact Ent.auto)) ((Ent.putIn k (by rw [List.length_map]; omega)).trans (by (exact Ent.auto)))
  · obtain rfl : k = v.length := by omega
    repeat' first
      | ((with_reducible refine Nx.is_wp ?_); first | refine Nx.wo ?_ | refine Nx.p_dec rfl rfl (fun hc => ?_) (fun hc => ?_) | refine Nx.p_bool rfl rfl (fun hc => ?_) (fun hc => ?_))
      | ((first | refine Nx.at_op rfl rfl ?_ | refine Nx.m_loud rfl rfl rfl ?_ | refine Nx.at_do rfl rfl rfl rfl ?_ | refine Nx.m_loud_do rfl rfl rfl rfl rfl ?_); first | refine Nx.opr rfl rfl ?_ | refine Nx.so ?_ | refine Nx.sb (fun bx => ?_) | refine Nx.sa (fun A2 c2 => ?_))
      | ((with_reducible refine Nx.is_at ?_); first | refine Nx.a ?_ | ((fail_if_success refine Nx.at_do rfl rfl rfl rfl ?_); first | refine Nx.at_dec_t rfl rfl rfl rfl (by first | assumption | omega) ?_ | refine Nx.at_dec_f rfl rfl rfl rfl (by first | assumption | omega) ?_ | refine Nx.at_split rfl rfl rfl rfl (fun hc => ?_) (fun hc => ?_) | refine Nx.at_splitb rfl rfl rfl rfl (fun hc => ?_) (fun hc => ?_)))
      | ((with_reducible refine Nx.is_mix ?_); first | refine Nx.m ?_ | ((fail_if_success refine Nx.m_quiet_do rfl rfl rfl rfl rfl rfl rfl ?_ ?_); (fail_if_success refine Nx.m_loud_do rfl rfl rfl rfl rfl ?_); first | refine Nx.m_dec_t rfl rfl rfl rfl (by first | assumption | omega) ?_ | refine Nx.m_dec_f rfl rfl rfl rfl (by first | assumption | omega) ?_ | refine Nx.m_split rfl rfl rfl rfl (fun hc => ?_) (fun hc => ?_) | refine Nx.m_splitb rfl rfl rfl rfl (fun hc => ?_) (fun hc => ?_)))
      | ((fail_if_success (with_reducible refine Nx.is_at ?_)); (fail_if_success (with_reducible refine Nx.is_wp ?_)); (fail_if_success (with_reducible refine Nx.is_mix ?_)); first | refine Nx.ex ?_)
    refine Nx.ret_fn rfl [Vec 28 1 (some ⟨bA, 0, none⟩) v.length v.length (o.map rowV), Stars (o.map rowR)] ⟨some ⟨bA, 0, none⟩, v.length, o, by rw [hol], ?_, by rw [hol]⟩ (by (exact Ent.auto))
    refine List.ext_getElem? fun i => ?_
    unfold repL
    rw [List.getElem?_map, show (matL o)[i]? = (o[i]?).map (·.2.2) from List.getElem?_map]
    by_cases hi : i < v.length
    · have h3 := hdone i hi
      rw [List.getElem?_eq_getElem (show i < o.length by omega), List.getElem?_range (by rw [matL_len]; exact hi)]
      simp only [Option.map_some]
      rw [matL_at hi, ← h3, List.getD_eq_getElem?_getD, List.getElem?_eq_getElem (show i < o.length by omega)]
      rfl
    · rw [List.getElem?_eq_none (show o.length ≤ i by omega), List.getElem?_eq_none (show (List.range (matL v).length).length ≤ i by rw [List.length_range, matL_len]; omega)]
      rfl
end Go.Proofs.YtpdgnjoideppjaaDoor
/- Contracts of functions of the given program, and lemmas about plain lists and numbers: what the laws of this seat lean on. -/
namespace Go.Proofs.YtpdgnjoideppjaaDoor
open Go.Eng Go.Det
attribute [local irreducible] opK wpList Code.wp Exit.then Exit.inBlock fnPost bodyPost Nx Calls Oper.wp Rd Rds Wr Ent Stars Blk Again Vec FnSpec wpMix QRun Stop Upto wpAt
/-! Systems solved -/
/-- The first one that is not 0. -/
def firstE (f : Nat → Int) : Nat → Int
  | 0 => 0
  | n + 1 => if firstE f n ≠ 0 then firstE f n else f n
theorem firstE_zero {f : Nat → Int} : ∀ {n : Nat}, firstE f n = 0 ↔ ∀ k, k < n → f k = 0
  | 0 => ⟨fun _ k hk => absurd hk (Nat.not_lt_zero _), fun _ => rfl⟩
  | n + 1 => by
    unfold firstE
    constructor
    · intro h k hk
      split at h
      · rename_i h1; exact absurd h h1
      · rename_i h1
        by_cases hkn : k = n
        · rw [hkn]; exact h
        · exact firstE_zero.1 (Decidable.not_not.1 h1) k (by omega)
    · intro h
      rw [if_neg (fun h1 => h1 (firstE_zero.2 fun k hk => h k (by omega)))]
      exact h n (by omega)
theorem firstE_at {f : Nat → Int} {k : Nat} (h : ∀ i, i < k → f i = 0) (hk : f k ≠ 0) : ∀ {n : Nat}, k < n → firstE f n = f k
  | 0, hn => absurd hn (Nat.not_lt_zero _)
  | n + 1, hn => by
    unfold firstE
    by_cases hkn : k = n
    · subst hkn
      rw [if_neg (fun h1 => h1 (firstE_zero.2 h))]
    · have := firstE_at h hk (n := n) (by omega)
      rw [this, if_pos hk]
def solQ (m : List (List Int)) (b : List Int) (i : Nat) : Rat := Rat.divInt (detM (repL m i b)) (detM m)
def solE (m : List (List Int)) (b : List Int) : Int := if chkE m ≠ 0 then chkE m else if b.length ≠ m.length then 17 else if firstE (fun i => chkE (repL m i b)) m.length ≠ 0 then firstE (fun i => chkE (repL m i b)) m.length else if detM m = 0 then 15 else firstE (fun i => redE (solQ m b i)) m.length
def solL (m : List (List Int)) (b : List Int) : List (Int × Int) := if solE m b = 0 then (List.range m.length).map fun i => (redN (solQ m b i), redD (solQ m b i)) else []
abbrev frC (x : Int × Int) : List Value := [.int .i64 x.1, .int .i64 x.2]
abbrev fracsR (A : Option Addr) (c : Nat) (l : List (Int × Int)) : Res := Vec 37 2 A l.length c (l.flatMap frC)
/-- What a function leaves that gives fractions and an error. -/
def fracPost (l : List (Int × Int)) (e : Int) (u : Value) (R' : List Res) : Prop := ∃ (A' : Option Addr) (c' : Nat), u = .tuple #[.slice A' l.length c', .int .i64 e] ∧ R' = [fracsR A' c' l]
end Go.Proofs.YtpdgnjoideppjaaDoor
/- Contracts of functions of the given program, and lemmas about plain lists and numbers: what the laws of this seat lean on. -/
namespace Go.Proofs.YtpdgnjoideppjaaDoor
open Go.Eng Go.Det
attribute [local irreducible] opK wpList Code.wp Exit.then Exit.inBlock fnPost bodyPost Nx Calls Oper.wp Rd Rds Wr Ent Stars Blk Again Vec FnSpec wpMix QRun Stop Upto wpAt
theorem solL_not {m : List (List Int)} {b : List Int} (h : solE m b ≠ 0) : solL m b = [] := if_neg h
set_option maxRecDepth 10000 in
set_option maxHeartbeats 8000000 in
theorem Solve_spec (A : Option Addr) (c : Nat) (v : List Row) (I : PH) (hT : TabI I) (hm : Mat I A c v) (B : Option Addr) (cb : Nat) (b : List Int) (hb : Ints I B cb b) :
    FnSpec Tryd.prog 12 [.slice A v.length c, .slice B b.length cb] I [] (fracPost (solL (matL v) b) (solE (matL v) b)) := by
  have hC := Check_spec A c v I hm
  have hml := matL_len v
  have hbl := hb.len
  have hvl := hm.outer.len
  refine FnSpec.enterP Tryd.func12 rfl Tryd.ntmps12 rfl fun w F => ?_
  by_cases h0 : chkE (matL v) = 0
  case neg =>
    have hE : solE (matL v) b = chkE (matL v) := if_pos h0
    rw [solL_not (by rw [hE]; exact h0), hE]
    repeat' first
      | ((with_reducible refine Nx.is_wp ?_); first | refine Nx.wo ?_ | refine Nx.p_dec rfl rfl (fun hc => ?_) (fun hc => ?_) | refine Nx.p_bool rfl rfl (fun hc => ?_) (fun hc => ?_))
      | ((first | refine Nx.at_op rfl rfl ?_ | refine Nx.m_loud rfl rfl rfl ?_ | refine Nx.at_do rfl rfl rfl rfl ?_ | refine Nx.m_loud_do rfl rfl rfl rfl rfl ?_); first | refine Nx.opr rfl rfl ?_ | refine Nx.callv rfl rfl rfl (by kernel_rfl) rfl hC ?_ | refine Nx.so ?_ | refine Nx.sb (fun bx => ?_) | refine Nx.sa (fun A2 c2 => ?_))
      | ((with_reducible refine Nx.is_at ?_); first | refine Nx.a ?_ | ((fail_if_success refine Nx.at_do rfl rfl rfl rfl ?_); first | refine Nx.at_dec_t rfl rfl rfl rfl (by first | assumption | omega) ?_ | refine Nx.at_dec_f rfl rfl rfl rfl (by first | assumption | omega) ?_ | refine Nx.at_split rfl rfl rfl rfl (fun hc => ?_) (fun hc => ?_) | refine Nx.at_splitb rfl rfl rfl rfl (fun hc => ?_) (fun hc => ?_)))
      | ((with_reducible refine Nx.is_mix ?_); first | refine Nx.m ?_ | ((fail_if_success refine Nx.m_quiet_do rfl rfl rfl rfl rfl rfl rfl ?_ ?_); (fail_if_success refine Nx.m_loud_do rfl rfl rfl rfl rfl ?_); first | refine Nx.m_dec_t rfl rfl rfl rfl (by first | assumption | omega) ?_ | refine Nx.m_dec_f rfl rfl rfl rfl (by first | assumption | omega) ?_ | refine Nx.m_split rfl rfl rfl rfl (fun hc => ?_) (fun hc => ?_) | refine Nx.m_splitb rfl rfl rfl rfl (fun hc => ?_) (fun hc => ?_)))
      | ((fail_if_success (with_reducible refine Nx.is_at ?_)); (fail_if_success (with_reducible refine Nx.is_wp ?_)); (fail_if_success (with_reducible refine Nx.is_mix ?_)); first | refine Nx.ex ?_)
    exact Nx.ret_fn rfl [fracsR none 0 []] ⟨none, 0, rfl, rfl⟩ ((Ent.vec_nil _ _ _).trans (by (exact Ent.auto)))
  rw [h0] at hC
  have hf := chk_ok.1 h0
  have hfew := hf.few
  rw [hml] at hfew
  have hsq := hf.sq
  by_cases h1 : b.length = v.length
  case neg =>
    have hE : solE (matL v) b = 17 := by unfold solE; rw [if_neg (by omega), if_pos (by omega)]
    rw [solL_not (by rw [hE]; decide), hE]
    repeat' first
      | ((with_reducible refine Nx.is_wp ?_); first | refine Nx.wo ?_ | refine Nx.p_dec rfl rfl (fun hc => ?_) (fun hc => ?_) | refine Nx.p_bool rfl rfl (fun hc => ?_) (fun hc => ?_))
      | ((first | refine Nx.at_op rfl rfl ?_ | refine Nx.m_loud rfl rfl rfl ?_ | refine Nx.at_do rfl rfl rfl rfl ?_ | refine Nx.m_loud_do rfl rfl rfl rfl rfl ?_); first | refine Nx.opr rfl rfl ?_ | refine Nx.callv rfl rfl rfl (by kernel_rfl) rfl hC ?_ | refine Nx.so ?_ | refine Nx.sb (fun bx => ?_) | refine Nx.sa (fun A2 c2 => ?_))
      | ((with_reducible refine Nx.is_at ?_); first | refine Nx.a ?_ | ((fail_if_success refine Nx.at_do rfl rfl rfl rfl ?_); first | refine Nx.at_dec_t rfl rfl rfl rfl (by first | assumption | omega) ?_ | refine Nx.at_dec_f rfl rfl rfl rfl (by first | assumption | omega) ?_ | refine Nx.at_split rfl rfl rfl rfl (fun hc => ?_) (fun hc => ?_) | refine Nx.at_splitb rfl rfl rfl rfl (fun hc => ?_) (fun hc => ?_)))
      | ((with_reducible refine Nx.is_mix ?_); first | refine Nx.m ?_ | ((fail_if_success refine Nx.m_quiet_do rfl rfl rfl rfl rfl rfl rfl ?_ ?_); (fail_if_success refine Nx.m_loud_do rfl rfl rfl rfl rfl ?_); first | refine Nx.m_dec_t rfl rfl rfl rfl (by first | assumption | omega) ?_ | refine Nx.m_dec_f rfl rfl rfl rfl (by first | assumption | omega) ?_ | refine Nx.m_split rfl rfl rfl rfl (fun hc => ?_) (fun hc => ?_) | refine Nx.m_splitb rfl rfl rfl rfl (fun hc => ?_) (fun hc => ?_)))
      | ((fail_if_success (with_reducible refine Nx.is_at ?_)); (fail_if_success (with_reducible refine Nx.is_wp ?_)); (fail_if_success (with_reducible refine Nx.is_mix ?_)); first | refine Nx.ex ?_)
    exact Nx.ret_fn rfl [fracsR none 0 []] ⟨none, 0, rfl, rfl⟩ ((Ent.vec_nil _ _ _).trans (by (exact Ent.auto)))
  have hE0 : solE (matL v) b = if firstE (fun i => chkE (repL (matL v) i b)) v.length ≠ 0 then firstE (fun i => chkE (repL (matL v) i b)) v.length else if detM (matL v) = 0 then 15 else firstE (fun i => redE (solQ (matL v) b i)) v.length := by
    unfold solE
    rw [if_neg (by omega), if_neg (by omega), hml]
  repeat' first
    | ((with_reducible refine Nx.is_wp ?_); first | refine Nx.wo ?_ | refine Nx.p_dec rfl rfl (fun hc => ?_) (fun hc => ?_) | refine Nx.p_bool rfl rfl (fun hc => ?_) (fun hc => ?_))
    | ((first | refine Nx.at_op rfl rfl ?_ | refine Nx.m_loud rfl rfl rfl ?_ | refine Nx.at_do rfl rfl rfl rfl ?_ | refine Nx.m_loud_do rfl rfl rfl rfl rfl ?_); first | refine Nx.opr rfl rfl ?_ | refine Nx.callv rfl rfl rfl (by kernel_rfl) rfl hC ?_ | refine Nx.so ?_ | refine Nx.sb (fun bx => ?_) | refine Nx.sa (fun A2 c2 => ?_))
    | ((with_reducible refine Nx.is_at ?_); first | refine Nx.a ?_ | ((fail_if_success refine Nx.at_do rfl rfl rfl rfl ?_); first | refine Nx.at_dec_t rfl rfl rfl rfl (by first | assumption | omega) ?_ | refine Nx.at_dec_f rfl rfl rfl rfl (by first | assumption | omega) ?_ | refine Nx.at_split rfl rfl rfl rfl (fun hc => ?_) (fun hc => ?_) | refine Nx.at_splitb rfl rfl rfl rfl (fun hc => ?_) (fun hc => ?_)))
    | ((with_reducible refine Nx.is_mix ?_); first | refine Nx.m ?_ | ((fail_if_success refine Nx.m_quiet_do rfl rfl rfl rfl rfl rfl rfl ?_ ?_); (fail_if_success refine Nx.m_loud_do rfl rfl rfl rfl rfl ?_); first | refine Nx.m_dec_t rfl rfl rfl rfl (by first | assumption | omega) ?_ | refine Nx.m_dec_f rfl rfl rfl rfl (by first | assumption | omega) ?_ | refine Nx.m_split rfl rfl rfl rfl (fun hc => ?_) (fun hc => ?_) | refine Nx.m_splitb rfl rfl rfl rfl (fun hc => ?_) (fun hc => ?_)))
    | ((fail_if_success (with_reducible refine Nx.is_at ?_)); (fail_if_success (with_reducible refine Nx.is_wp ?_)); (fail_if_success (with_reducible refine Nx.is_mix ?_)); first | refine Nx.ex ?_)
  refine Nx.p_loop (σ := Nat) (fun k => [(0, .slice A v.length c), (1, .slice B b.length cb), (25, .int .i64 v.length), (26, .int .i64 (k : Int))])
    (fun _ => [F]) (fun k => k ≤ v.length ∧ ∀ i, i < k → chkE (repL (matL v) i b) = 0) (fun k => v.length - k) 0 rfl ⟨Nat.zero_le _, fun i hi => absurd hi (Nat.not_lt_zero _)⟩ ⟨rfl, rfl, rfl, rfl, trivial⟩ (by (exact Ent.auto)) ?_
  rintro k ⟨hk, hgood⟩
  by_cases hlt : k < v.length
  · repeat' first
      | ((with_reducible refine Nx.is_wp ?_); first | refine Nx.wo ?_ | refine Nx.p_dec rfl rfl (fun hc => ?_) (fun hc => ?_) | refine Nx.p_bool rfl rfl (fun hc => ?_) (fun hc => ?_))
      | ((first | refine Nx.at_op rfl rfl ?_ | refine Nx.m_loud rfl rfl rfl ?_ | refine Nx.at_do rfl rfl rfl rfl ?_ | refine Nx.m_loud_do rfl rfl rfl rfl rfl ?_); first | refine Nx.opr rfl rfl ?_ | refine Nx.so ?_ | refine Nx.sb (fun bx => ?_) | refine Nx.sa (fun A2 c2 => ?_))
      | ((with_reducible refine Nx.is_at ?_); first | refine Nx.a ?_ | ((fail_if_success refine Nx.at_do rfl rfl rfl rfl ?_); first | refine Nx.at_dec_t rfl rfl rfl rfl (by first | assumption | omega) ?_ | refine Nx.at_dec_f rfl rfl rfl rfl (by first | assumption | omega) ?_ | refine Nx.at_split rfl rfl rfl rfl (fun hc => ?_) (fun hc => ?_) | refine Nx.at_splitb rfl rfl rfl rfl (fun hc => ?_) (fun hc => ?_)))
      | ((with_reducible refine Nx.is_mix ?_); first | refine Nx.m ?_ | ((fail_if_success refine Nx.m_quiet_do rfl rfl rfl rfl rfl rfl rfl ?_ ?_); (fail_if_success refine Nx.m_loud_do rfl rfl rfl rfl rfl ?_); first | refine Nx.m_dec_t rfl rfl rfl rfl (by first | assumption | omega) ?_ | refine Nx.m_dec_f rfl rfl rfl rfl (by first | assumption | omega) ?_ | refine Nx.m_split rfl rfl rfl rfl (fun hc => ?_) (fun hc => ?_) | refine Nx.m_splitb rfl rfl rfl rfl (fun hc => ?_) (fun hc => ?_)))
      | ((fail_if_success (with_reducible refine Nx.is_at ?_)); (fail_if_success (with_reducible refine Nx.is_wp ?_)); (fail_if_success (with_reducible refine Nx.is_mix ?_)); first | refine Nx.ex ?_)
    refine Nx.at_op rfl rfl ?_
    refine Nx.call (Rpre := []) rfl rfl rfl (by kernel_rfl) rfl (replaced_spec A c v I hm hsq (by omega) k hlt B cb b hb h1) (Ent.refl _) ?_
    rintro _ _ ⟨A3, c3, o3, rfl, ho3, rfl⟩
    refine Nx.freezeAt 0 rfl fun I1 m1 hI1 hm1 h1' => ?_
    refine Nx.freezeAt 0 rfl fun I2 m2 hI2 hm2 h2' => ?_
    have hM3 : Mat I2 A3 c3 o3 := mat_given (hm1.trans hI2) h1' hm2 h2'
    have hC3 := Check_spec A3 c3 o3 I2 hM3
    rw [ho3] at hC3
    by_cases he : chkE (repL (matL v) k b) = 0
    · rw [he] at hC3
      repeat' first
        | ((with_reducible refine Nx.is_wp ?_); first | refine Nx.wo ?_ | refine Nx.p_dec rfl rfl (fun hc => ?_) (fun hc => ?_) | refine Nx.p_bool rfl rfl (fun hc => ?_) (fun hc => ?_))
        | ((first | refine Nx.at_op rfl rfl ?_ | refine Nx.m_loud rfl rfl rfl ?_ | refine Nx.at_do rfl rfl rfl rfl ?_ | refine Nx.m_loud_do rfl rfl rfl rfl rfl ?_); first | refine Nx.opr rfl rfl ?_ | refine Nx.callv rfl rfl rfl (by kernel_rfl) rfl hC3 ?_ | refine Nx.so ?_ | refine Nx.sb (fun bx => ?_) | refine Nx.sa (fun A2 c2 => ?_))
        | ((with_reducible refine Nx.is_at ?_); first | refine Nx.a ?_ | ((fail_if_success refine Nx.at_do rfl rfl rfl rfl ?_); first | refine Nx.at_dec_t rfl rfl rfl rfl (by first | assumption | omega) ?_ | refine Nx.at_dec_f rfl rfl rfl rfl (by first | assumption | omega) ?_ | refine Nx.at_split rfl rfl rfl rfl (fun hc => ?_) (fun hc => ?_) | refine Nx.at_splitb rfl rfl rfl rfl (fun hc => ?_) (fun hc => ?_)))
        | ((with_reducible refine Nx.is_mix ?_); first | refine Nx.m ?_ | ((fail_if_success refine Nx.m_quiet_do rfl rfl rfl rfl rfl rfl rfl ?_ ?_); (fail_if_success refine Nx.m_loud_do rfl rfl rfl rfl rfl ?_); first | refine Nx.m_dec_t rfl rfl rfl rfl (by first | assumption | omega) ?_ | refine Nx.m_dec_f rfl rfl rfl rfl (by first | assumption | omega) ?_ | refine Nx.m_split rfl rfl rfl rfl (fun hc => ?_) (fun hc => ?_) | refine Nx.m_splitb rfl rfl rfl rfl (fun hc => ?_) (fun hc => ?_)))
        | ((fail_if_success (with_reducible refine Nx.is_at ?_)); (fail_if_success (with_reducible refine Nx.is_wp ?_)); (fail_if_success (with_reducible refine Nx.is_mix ?_)); first | refine Nx.ex ?_)
      exact Nx.imm_le (hI1.trans hI2) (Nx.again (k + 1) ⟨hlt, fun i hi => by
        by_cases hik : i = k
        · rw [hik]; exact he
        · exact hgood i (by omega)⟩ (by omega) ⟨rfl, rfl, rfl, rfl, trivial⟩ (by (exact Ent.auto)))
    · have hfi := firstE_at (f := fun i => chkE (repL (matL v) i b)) hgood he hlt
      have hE : solE (matL v) b = chkE (repL (matL v) k b) := by rw [hE0, hfi, if_pos he]
      rw [solL_not (by rw [hE]; exact he), hE]
      repeat' first
        | ((with_reducible refine Nx.is_wp ?_); first | refine Nx.wo ?_ | refine Nx.p_dec rfl rfl (fun hc => ?_) (fun hc => ?_) | refine Nx.p_bool rfl rfl (fun hc => ?_) (fun hc => ?_))
        | ((first | refine Nx.at_op rfl rfl ?_ | refine Nx.m_loud rfl rfl rfl ?_ | refine Nx.at_do rfl rfl rfl rfl ?_ | refine Nx.m_loud_do rfl rfl rfl rfl rfl ?_); first | refine Nx.opr rfl rfl ?_ | refine Nx.callv rfl rfl rfl (by kernel_rfl) rfl hC3 ?_ | refine Nx.so ?_ | refine Nx.sb (fun bx => ?_) | refine Nx.sa (fun A2 c2 => ?_))
        | ((with_reducible refine Nx.is_at ?_); first | refine Nx.a ?_ | ((fail_if_success refine Nx.at_do rfl rfl rfl rfl ?_); first | refine Nx.at_dec_t rfl rfl rfl rfl (by first | assumption | omega) ?_ | refine Nx.at_dec_f rfl rfl rfl rfl (by first | assumption | omega) ?_ | refine Nx.at_split rfl rfl rfl rfl (fun hc => ?_) (fun hc => ?_) | refine Nx.at_splitb rfl rfl rfl rfl (fun hc => ?_) (fun hc => ?_)))
        | ((with_reducible refine Nx.is_mix ?_); first | refine Nx.m ?_ | ((fail_if_success refine Nx.m_quiet_do rfl rfl rfl rfl rfl rfl rfl ?_ ?_); (fail_if_success refine Nx.m_loud_do rfl rfl rfl rfl rfl ?_); first | refine Nx.m_dec_t rfl rfl rfl rfl (by first | assumption | omega) ?_ | refine Nx.m_dec_f rfl rfl rfl rfl (by first | assumption | omega) ?_ | refine Nx.m_split rfl rfl rfl rfl (fun hc => ?_) (fun hc => ?_) | refine Nx.m_splitb rfl rfl rfl rfl (fun hc => ?_) (fun hc => ?_)))
        | ((fail_if_success (with_reducible refine Nx.is_at ?_)); (fail_if_success (with_reducible refine Nx.is_wp ?_)); (fail_if_success (with_reducible refine Nx.is_mix ?_)); first | refine Nx.ex ?_)
      exact Nx.imm_le (hI1.trans hI2) (Nx.ret_fn rfl [fracsR none 0 []] ⟨none, 0, rfl, rfl⟩ ((Ent.vec_nil _ _ _).trans (by (exact Ent.auto))))
  obtain rfl : k = v.length := by omega
  rw [firstE_zero.2 hgood, if_neg (by decide)] at hE0
  have hD := det_spec A c v I hm hf.small hsq (by omega)
  have hS := sign_spec (detM (matL v)) (det_inw (det_bd hf)).1 I
  by_cases hz : detM (matL v) = 0
  · rw [if_pos hz] at hE0
    rw [solL_not (by rw [hE0]; decide), hE0]
    rw [show (detM (matL v)).sign = 0 by rw [hz]; rfl] at hS
    repeat' first
      | ((with_reducible refine Nx.is_wp ?_); first | refine Nx.wo ?_ | refine Nx.p_dec rfl rfl (fun hc => ?_) (fun hc => ?_) | refine Nx.p_bool rfl rfl (fun hc => ?_) (fun hc => ?_))
      | ((first | refine Nx.at_op rfl rfl ?_ | refine Nx.m_loud rfl rfl rfl ?_ | refine Nx.at_do rfl rfl rfl rfl ?_ | refine Nx.m_loud_do rfl rfl rfl rfl rfl ?_); first | refine Nx.opr rfl rfl ?_ | refine Nx.callv rfl rfl rfl (by kernel_rfl) rfl hD ?_ | refine Nx.callv rfl rfl rfl (by kernel_rfl) rfl hS ?_ | refine Nx.so ?_ | refine Nx.sb (fun bx => ?_) | refine Nx.sa (fun A2 c2 => ?_))
      | ((with_reducible refine Nx.is_at ?_); first | refine Nx.a ?_ | ((fail_if_success refine Nx.at_do rfl rfl rfl rfl ?_); first | refine Nx.at_dec_t rfl rfl rfl rfl (by first | assumption | omega) ?_ | refine Nx.at_dec_f rfl rfl rfl rfl (by first | assumption | omega) ?_ | refine Nx.at_split rfl rfl rfl rfl (fun hc => ?_) (fun hc => ?_) | refine Nx.at_splitb rfl rfl rfl rfl (fun hc => ?_) (fun hc => ?_)))
      | ((with_reducible refine Nx.is_mix ?_); first | refine Nx.m ?_ | ((fail_if_success refine Nx.m_quiet_do rfl rfl rfl rfl rfl rfl rfl ?_ ?_); (fail_if_success refine Nx.m_loud_do rfl rfl rfl rfl rfl ?_); first | refine Nx.m_dec_t rfl rfl rfl rfl (by first | assumption | omega) ?_ | refine Nx.m_dec_f rfl rfl rfl rfl (by first | assumption | omega) ?_ | refine Nx.m_split rfl rfl rfl rfl (fun hc => ?_) (fun hc => ?_) | refine Nx.m_splitb rfl rfl rfl rfl (fun hc => ?_) (fun hc => ?_)))
      | ((fail_if_success (with_reducible refine Nx.is_at ?_)); (fail_if_success (with_reducible refine Nx.is_wp ?_)); (fail_if_success (with_reducible refine Nx.is_mix ?_)); first | refine Nx.ex ?_)
    exact Nx.ret_fn rfl [fracsR none 0 []] ⟨none, 0, rfl, rfl⟩ ((Ent.vec_nil _ _ _).trans (by (exact Ent.auto)))
  rw [if_neg hz] at hE0
  have hsn : (detM (matL v)).sign ≠ 0 := fun h => hz (Int.sign_eq_zero_iff_zero.1 h)
  repeat' first
    | ((with_reducible refine Nx.is_wp ?_); first | refine Nx.wo ?_ | refine Nx.p_dec rfl rfl (fun hc => ?_) (fun hc => ?_) | refine Nx.p_bool rfl rfl (fun hc => ?_) (fun hc => ?_))
    | ((first | refine Nx.at_op rfl rfl ?_ | refine Nx.m_loud rfl rfl rfl ?_ | refine Nx.at_do rfl rfl rfl rfl ?_ | refine Nx.m_loud_do rfl rfl rfl rfl rfl ?_); first | refine Nx.opr rfl rfl ?_ | refine Nx.callv rfl rfl rfl (by kernel_rfl) rfl hD ?_ | refine Nx.callv rfl rfl rfl (by kernel_rfl) rfl hS ?_ | refine Nx.so ?_ | refine Nx.sb (fun bx => ?_) | refine Nx.sa (fun A2 c2 => ?_))
    | ((with_reducible refine Nx.is_at ?_); first | refine Nx.a ?_ | ((fail_if_success refine Nx.at_do rfl rfl rfl rfl ?_); first | refine Nx.at_dec_t rfl rfl rfl rfl (by first | assumption | omega) ?_ | refine Nx.at_dec_f rfl rfl rfl rfl (by first | assumption | omega) ?_ | refine Nx.at_split rfl rfl rfl rfl (fun hc => ?_) (fun hc => ?_) | refine Nx.at_splitb rfl rfl rfl rfl (fun hc => ?_) (fun hc => ?_)))
    | ((with_reducible refine Nx.is_mix ?_); first | refine Nx.m ?_ | ((fail_if_success refine Nx.m_quiet_do rfl rfl rfl rfl rfl rfl rfl ?_ ?_); (fail_if_success refine Nx.m_loud_do rfl rfl rfl rfl rfl ?_); first | refine Nx.m_dec_t rfl rfl rfl rfl (by first | assumption | omega) ?_ | refine Nx.m_dec_f rfl rfl rfl rfl (by first | assumption | omega) ?_ | refine Nx.m_split rfl rfl rfl rfl (fun hc => ?_) (fun hc => ?_) | refine Nx.m_splitb rfl rfl rfl rfl (fun hc => ?_) (fun hc => ?_)))
    | ((fail_if_success (with_reducible refine Nx.is_at ?_)); (fail_if_success (with_reducible refine Nx.is_wp ?_)); (fail_if_success (with_reducible refine Nx.is_mix ?_)); first | refine Nx.ex ?_)
  revert bx; intro b9
  refine Nx.ent (R' := [Blk b9 WT (wideL (detM (matL v))), F]) (by (exact Ent.auto)) ?_
  refine Nx.p_loop (σ := Nat × Option Addr × Nat) (fun x => [(0, .slice A v.length c), (1, .slice B b.length cb), (9, .pointer (some ⟨b9, 0, none⟩)), (10, .slice x.2.1 ((List.range x.1).map fun i => (redN (solQ (matL v) b i), redD (solQ (matL v) b i))).length x.2.2), (44, .int .i64 v.length), (45, .int .i64 (x.1 : Int))])
    (fun x => [fracsR x.2.1 x.2.2 ((List.range x.1).map fun i => (redN (solQ (matL v) b i), redD (solQ (matL v) b i))), Blk b9 WT (wideL (detM (matL v))), F]) (fun x => x.1 ≤ v.length ∧ ∀ i, i < x.1 → redE (solQ (matL v) b i) = 0) (fun x => v.length - x.1) (0, none, 0) rfl ⟨Nat.zero_le _, fun i hi => absurd hi (Nat.not_lt_zero _)⟩ ⟨rfl, rfl, rfl, rfl, rfl, rfl, trivial⟩ ((Ent.vec_nil _ _ _).trans (by (exact Ent.auto))) ?_
  rintro ⟨k, Ao, co⟩ ⟨hk, hzero⟩
  dsimp only at hk hzero ⊢
  generalize hL : (List.range k).map (fun i => (redN (solQ (matL v) b i), redD (solQ (matL v) b i))) = L
  have hLl : L.length = k := by rw [← hL, List.length_map, List.length_range]
  by_cases hlt : k < v.length
  · have hck := hgood k hlt
    have hfk := chk_ok.1 hck
    have hR : FnSpec Tryd.prog 26 [wideV (detM (repL (matL v) k b)), wideV (detM (matL v))] I [] (fun u R' => u = .tuple #[.agg #[.int .i64 (redN (solQ (matL v) b k)), .int .i64 (redD (solQ (matL v) b k))], .int .i64 (redE (solQ (matL v) b k))] ∧ R' = []) := Reduced_spec (detM (repL (matL v) k b)) (detM (matL v)) (det_inw (det_bd hfk)).2 hz (det_inw (det_bd hf)).2 I hT
    have hrs := replaced_spec A c v I hm hsq (by omega) k hlt B cb b hb h1
    have hds := fun (A3 : Option Addr) (c3 : Nat) (o3 : List Row) (ho3 : matL o3 = repL (matL v) k b) (I' : PH) (h : Mat I' A3 c3 o3) => det_spec A3 c3 o3 I' h (by rw [ho3]; exact hfk.small) (by have := hfk; rw [← ho3] at this; exact this.sq) (by have := hfk.few; rw [← ho3, matL_len] at this; omega)
    by_cases he : redE (solQ (matL v) b k) = 0
    · repeat' first
        | ((with_reducible refine Nx.is_wp ?_); first | refine Nx.wo ?_ | refine Nx.p_poolF (id := 20) rfl [0, 1, 2, 5, 3, 4, 6, 7, 8, 9] [3, 4, 6] [9, 8] [11, 12] [11] [⟨10, 12, 37, _⟩] rfl rfl (by kernel_rfl) (by kernel_rfl) (by decide) (PoolFit.cons ⟨⟨_, _, _, rfl⟩, rfl, rfl⟩ PoolFit.nil) (by repeat first | exact PanicOk.fn | refine PanicOk.then_ ?_ | refine PanicOk.inB ?_) (Ent.refl _) ?_ | refine Nx.p_dec rfl rfl (fun hc => ?_) (fun hc => ?_) | refine Nx.p_bool rfl rfl (fun hc => ?_) (fun hc => ?_))
        | ((first | refine Nx.at_op rfl rfl ?_ | refine Nx.m_loud rfl rfl rfl ?_ | refine Nx.at_do rfl rfl rfl rfl ?_ | refine Nx.m_loud_do rfl rfl rfl rfl rfl ?_ | refine GoodF.loud_ rfl rfl rfl rfl (fun ex X => ?_)); first | refine Nx.opr rfl rfl ?_ | (refine Nx.call (Rpre := []) rfl rfl rfl (by kernel_rfl) rfl hrs (Ent.refl _) ?_; rintro _ _ ⟨A3, c3, o3, rfl, ho3, rfl⟩) | (refine Nx.call_lendR2 1 1 rfl rfl rfl (by kernel_rfl) rfl rfl rfl (fun m1 m2 I' hI hm1 h1 hm2 h2 => hds _ _ _ ho3 I' (mat_given hm1 h1 hm2 h2)) ?_; rintro _ _ ⟨rfl, rfl⟩; rw [ho3]) | refine Nx.callv rfl rfl rfl (by kernel_rfl) rfl hR ?_ | refine Nx.so ?_ | refine Nx.sb (fun bx => ?_) | refine Nx.sa (fun A2 c2 => ?_))
        | ((with_reducible refine Nx.is_at ?_); first | refine Nx.a ?_ | ((fail_if_success refine Nx.at_do rfl rfl rfl rfl ?_); first | refine Nx.at_dec_t rfl rfl rfl rfl (by first | assumption | omega) ?_ | refine Nx.at_dec_f rfl rfl rfl rfl (by first | assumption | omega) ?_ | refine Nx.at_split rfl rfl rfl rfl (fun hc => ?_) (fun hc => ?_) | refine Nx.at_splitb rfl rfl rfl rfl (fun hc => ?_) (fun hc => ?_)))
        | ((with_reducible refine Nx.is_mix ?_); first | refine Nx.m_quiet rfl rfl rfl rfl rfl (by first | exact QRun.opr rfl | exact QRun.loads rfl rfl rfl (Rds.at_ 1 rfl) rfl) ?_ | refine Nx.m_quiet_do rfl rfl rfl rfl rfl rfl rfl (by first | exact QRun.opr rfl | exact QRun.loads rfl rfl rfl (Rds.at_ 1 rfl) rfl) ?_ | refine Nx.m ?_ | ((fail_if_success refine Nx.m_quiet_do rfl rfl rfl rfl rfl rfl rfl ?_ ?_); (fail_if_success refine Nx.m_loud_do rfl rfl rfl rfl rfl ?_); first | refine Nx.m_dec_t rfl rfl rfl rfl (by first | assumption | omega) ?_ | refine Nx.m_dec_f rfl rfl rfl rfl (by first | assumption | omega) ?_ | refine Nx.m_split rfl rfl rfl rfl (fun hc => ?_) (fun hc => ?_) | refine Nx.m_splitb rfl rfl rfl rfl (fun hc => ?_) (fun hc => ?_)))
        | ((with_reducible refine GoodF.is ?_); first | refine GoodF.quiet rfl rfl rfl rfl rfl rfl (by first | exact QRun.opr rfl | exact QRun.loads rfl rfl rfl (Rds.at_ 1 rfl) rfl |  exact QRun.std) ?_ | refine GoodF.done1 rfl (fun bx => ?_) | refine GoodF.done2 rfl (fun bx by_ => ?_) | refine GoodF.done3 rfl (fun bx by_ bz => ?_))
        | ((fail_if_success (with_reducible refine Nx.is_at ?_)); (fail_if_success (with_reducible refine Nx.is_wp ?_)); (fail_if_success (with_reducible refine Nx.is_mix ?_)); first | refine Nx.ex ?_ | refine Nx.pool_nextF 0 rfl (by exact Ent.auto) ?_ | refine Nx.pool_nextF 1 rfl (by exact Ent.auto) ?_ | refine Nx.pool_nextF 2 rfl (by exact Ent.auto) ?_ | refine Nx.pool_nextF 3 rfl (by exact Ent.auto) ?_)
      have hL2 : (List.range (k + 1)).map (fun i => (redN (solQ (matL v) b i), redD (solQ (matL v) b i))) = L ++ [(redN (solQ (matL v) b k), redD (solQ (matL v) b k))] := by rw [List.range_succ, List.map_append, hL]; rfl
      have hL3 : (L ++ [(redN (solQ (matL v) b k), redD (solQ (matL v) b k))]).length = L.length + 1 := by simp
      exact Nx.again (k + 1, A2, c2) ⟨hlt, fun i hi => by
        by_cases hik : i = k
        · rw [hik]; exact he
        · exact hzero i (by omega)⟩ (by dsimp only; omega) ⟨rfl, rfl, rfl, by dsimp only; rw [hL2, hL3]; rfl, rfl, rfl, trivial⟩ (by dsimp only; rw [hL2]; unfold fracsR; rw [hL3, List.flatMap_append]; (exact Ent.auto))
    · have hfi := firstE_at (f := fun i => redE (solQ (matL v) b i)) hzero he hlt
      have hE : solE (matL v) b = redE (solQ (matL v) b k) := by rw [hE0, hfi]
      rw [solL_not (by rw [hE]; exact he), hE]
      repeat' first
        | ((with_reducible refine Nx.is_wp ?_); first | refine Nx.wo ?_ | refine Nx.p_poolF (id := 20) rfl [0, 1, 2, 5, 3, 4, 6, 7, 8, 9] [3, 4, 6] [9, 8] [11, 12] [11] [⟨10, 12, 37, _⟩] rfl rfl (by kernel_rfl) (by kernel_rfl) (by decide) (PoolFit.cons ⟨⟨_, _, _, rfl⟩, rfl, rfl⟩ PoolFit.nil) (by repeat first | exact PanicOk.fn | refine PanicOk.then_ ?_ | refine PanicOk.inB ?_) (Ent.refl _) ?_ | refine Nx.p_dec rfl rfl (fun hc => ?_) (fun hc => ?_) | refine Nx.p_bool rfl rfl (fun hc => ?_) (fun hc => ?_))
        | ((first | refine Nx.at_op rfl rfl ?_ | refine Nx.m_loud rfl rfl rfl ?_ | refine Nx.at_do rfl rfl rfl rfl ?_ | refine Nx.m_loud_do rfl rfl rfl rfl rfl ?_ | refine GoodF.loud_ rfl rfl rfl rfl (fun ex X => ?_)); first | refine Nx.opr rfl rfl ?_ | (refine Nx.call (Rpre := []) rfl rfl rfl (by kernel_rfl) rfl hrs (Ent.refl _) ?_; rintro _ _ ⟨A3, c3, o3, rfl, ho3, rfl⟩) | (refine Nx.call_lendR2 1 1 rfl rfl rfl (by kernel_rfl) rfl rfl rfl (fun m1 m2 I' hI hm1 h1 hm2 h2 => hds _ _ _ ho3 I' (mat_given hm1 h1 hm2 h2)) ?_; rintro _ _ ⟨rfl, rfl⟩; rw [ho3]) | refine Nx.callv rfl rfl rfl (by kernel_rfl) rfl hR ?_ | refine Nx.so ?_ | refine Nx.sb (fun bx => ?_) | refine Nx.sa (fun A2 c2 => ?_))
        | ((with_reducible refine Nx.is_at ?_); first | refine Nx.a ?_ | ((fail_if_success refine Nx.at_do rfl rfl rfl rfl ?_); first | refine Nx.at_dec_t rfl rfl rfl rfl (by first | assumption | omega) ?_ | refine Nx.at_dec_f rfl rfl rfl rfl (by first | assumption | omega) ?_ | refine Nx.at_split rfl rfl rfl rfl (fun hc => ?_) (fun hc => ?_) | refine Nx.at_splitb rfl rfl rfl rfl (fun hc => ?_) (fun hc => ?_)))
        | ((with_reducible refine Nx.is_mix ?_); first | refine Nx.m_quiet rfl rfl rfl rfl rfl (by first | exact QRun.opr rfl | exact QRun.loads rfl rfl rfl (Rds.at_ 1 rfl) rfl) ?_ | refine Nx.m_quiet_do rfl rfl rfl rfl rfl rfl rfl (by first | exact QRun.opr rfl | exact QRun.loads rfl rfl rfl (Rds.at_ 1 rfl) rfl) ?_ | refine Nx.m ?_ | ((fail_if_success refine Nx.m_quiet_do rfl rfl rfl rfl rfl rfl rfl ?_ ?_); (fail_if_success refine Nx.m_loud_do rfl rfl rfl rfl rfl ?_); first | refine Nx.m_dec_t rfl rfl rfl rfl (by first | assumption | omega) ?_ | refine Nx.m_dec_f rfl rfl rfl rfl (by first | assumption | omega) ?_ | refine Nx.m_split rfl rfl rfl rfl (fun hc => ?_) (fun hc => ?_) | refine Nx.m_splitb rfl rfl rfl rfl (fun hc => ?_) (fun hc => ?_)))
        | ((with_reducible refine GoodF.is ?_); first | refine GoodF.quiet rfl rfl rfl rfl rfl rfl (by first | exact QRun.opr rfl | exact QRun.loads rfl rfl rfl (Rds.at_ 1 rfl) rfl |  exact QRun.std) ?_ | refine GoodF.done1 rfl (fun bx => ?_) | refine GoodF.done2 rfl (fun bx by_ => ?_) | refine GoodF.done3 rfl (fun bx by_ bz => ?_))
        | ((fail_if_success (with_reducible refine Nx.is_at ?_)); (fail_if_success (with_reducible refine Nx.is_wp ?_)); (fail_if_success (with_reducible refine Nx.is_mix ?_)); first | refine Nx.ex ?_ | refine Nx.pool_nextF 0 rfl (by exact Ent.auto) ?_ | refine Nx.pool_nextF 1 rfl (by exact Ent.auto) ?_ | refine Nx.pool_nextF 2 rfl (by exact Ent.auto) ?_ | refine Nx.pool_nextF 3 rfl (by exact Ent.auto) ?_)
      exact Nx.ret_fn rfl [fracsR none 0 []] ⟨none, 0, rfl, rfl⟩ ((Ent.vec_nil _ _ _).trans (by (exact Ent.auto)))
  · obtain rfl : k = v.length := by omega
    have hEz : solE (matL v) b = 0 := by rw [hE0]; exact firstE_zero.2 hzero
    have hLs : solL (matL v) b = L := by unfold solL; rw [if_pos hEz, hml]; exact hL
    rw [hLs, hEz]
    repeat' first
      | ((with_reducible refine Nx.is_wp ?_); first | refine Nx.wo ?_ | refine Nx.p_dec rfl rfl (fun hc => ?_) (fun hc => ?_) | refine Nx.p_bool rfl rfl (fun hc => ?_) (fun hc => ?_))
      | ((first | refine Nx.at_op rfl rfl ?_ | refine Nx.m_loud rfl rfl rfl ?_ | refine Nx.at_do rfl rfl rfl rfl ?_ | refine Nx.m_loud_do rfl rfl rfl rfl rfl ?_); first | refine Nx.opr rfl rfl ?_ | refine Nx.so ?_ | refine Nx.sb (fun bx => ?_) | refine Nx.sa (fun A2 c2 => ?_))
      | ((with_reducible refine Nx.is_at ?_); first | refine Nx.a ?_ | ((fail_if_success refine Nx.at_do rfl rfl rfl rfl ?_); first | refine Nx.at_dec_t rfl rfl rfl rfl (by first | assumption | omega) ?_ | refine Nx.at_dec_f rfl rfl rfl rfl (by first | assumption | omega) ?_ | refine Nx.at_split rfl rfl rfl rfl (fun hc => ?_) (fun hc => ?_) | refine Nx.at_splitb rfl rfl rfl rfl (fun hc => ?_) (fun hc => ?_)))
      | ((with_reducible refine Nx.is_mix ?_); first | refine Nx.m ?_ | ((fail_if_success refine Nx.m_quiet_do rfl rfl rfl rfl rfl rfl rfl ?_ ?_); (fail_if_success refine Nx.m_loud_do rfl rfl rfl rfl rfl ?_); first | refine Nx.m_dec_t rfl rfl rfl rfl (by first | assumption | omega) ?_ | refine Nx.m_dec_f rfl rfl rfl rfl (by first | assumption | omega) ?_ | refine Nx.m_split rfl rfl rfl rfl (fun hc => ?_) (fun hc => ?_) | refine Nx.m_splitb rfl rfl rfl rfl (fun hc => ?_) (fun hc => ?_)))
      | ((fail_if_success (with_reducible refine Nx.is_at ?_)); (fail_if_success (with_reducible refine Nx.is_wp ?_)); (fail_if_success (with_reducible refine Nx.is_mix ?_)); first | refine Nx.ex ?_)
    exact Nx.ret_fn rfl [fracsR Ao co L] ⟨Ao, co, rfl, rfl⟩ (by (exact Ent.auto))
end Go.Proofs.YtpdgnjoideppjaaDoor
/- Contracts of functions of the given program, and lemmas about plain lists and numbers: what the laws of this seat lean on. -/
namespace Go.Proofs.YtpdgnjoideppjaaDoor
open Go.Eng Go.Det
attribute [local irreducible] opK wpList Code.wp Exit.then Exit.inBlock fnPost bodyPost Nx Calls Oper.wp Rd Rds Wr Ent Stars Blk Again Vec FnSpec wpMix QRun Stop Upto wpAt
/-! Lists of ints cloned, searched -/
theorem getD_memI {l : List Int} {k : Nat} (h : k < l.length) : l.getD k default ∈ l := by rw [List.getD_eq_getElem?_getD, List.getElem?_eq_getElem h]; exact List.getElem_mem _
theorem take_snocI {l : List Int} {k : Nat} (h : k < l.length) : l.take (k + 1) = l.take k ++ [l.getD k default] := by rw [List.take_succ_eq_append_getElem h, List.getD_eq_getElem?_getD, List.getElem?_eq_getElem h]; rfl
set_option maxRecDepth 10000 in
theorem Clone_spec (A : Option Addr) (c : Nat) (l : List Int) (I : PH) (hl : Ints I A c l) (h9 : l.length ≤ 1000000) :
    FnSpec Tryd.prog 57 [.slice A l.length c] I [] (fun v R' => ∃ A' c', v = .slice A' l.length c' ∧ R' = [intsR A' c' l]) := by
  cases A with
  | none =>
    have h0 : l = [] := by
      rcases Nat.eq_zero_or_pos l.length with h | h
      · exact List.eq_nil_of_length_eq_zero h
      · have := hl.isSome h; cases this
    subst h0
    refine FnSpec.enterP Tryd.func57 rfl Tryd.ntmps57 rfl fun w F => ?_
    repeat' first
      | ((with_reducible refine Nx.is_wp ?_); first | refine Nx.wo ?_ | refine Nx.p_dec rfl rfl (fun hc => ?_) (fun hc => ?_) | refine Nx.p_bool rfl rfl (fun hc => ?_) (fun hc => ?_))
      | ((first | refine Nx.at_op rfl rfl ?_ | refine Nx.m_loud rfl rfl rfl ?_ | refine Nx.at_do rfl rfl rfl rfl ?_ | refine Nx.m_loud_do rfl rfl rfl rfl rfl ?_); first | refine Nx.opr rfl rfl ?_ | refine Nx.so ?_ | refine Nx.sb (fun bx => ?_) | refine Nx.sa (fun A2 c2 => ?_))
      | ((with_reducible refine Nx.is_at ?_); first | refine Nx.a ?_ | ((fail_if_success refine Nx.at_do rfl rfl rfl rfl ?_); first | refine Nx.at_dec_t rfl rfl rfl rfl (by first | assumption | omega) ?_ | refine Nx.at_dec_f rfl rfl rfl rfl (by first | assumption | omega) ?_ | refine Nx.at_split rfl rfl rfl rfl (fun hc => ?_) (fun hc => ?_) | refine Nx.at_splitb rfl rfl rfl rfl (fun hc => ?_) (fun hc => ?_)))
      | ((with_reducible refine Nx.is_mix ?_); first | refine Nx.m ?_ | ((fail_if_success refine Nx.m_quiet_do rfl rfl rfl rfl rfl rfl rfl ?_ ?_); (fail_if_success refine Nx.m_loud_do rfl rfl rfl rfl rfl ?_); first | refine Nx.m_dec_t rfl rfl rfl rfl (by first | assumption | omega) ?_ | refine Nx.m_dec_f rfl rfl rfl rfl (by first | assumption | omega) ?_ | refine Nx.m_split rfl rfl rfl rfl (fun hc => ?_) (fun hc => ?_) | refine Nx.m_splitb rfl rfl rfl rfl (fun hc => ?_) (fun hc => ?_)))
      | ((fail_if_success (with_reducible refine Nx.is_at ?_)); (fail_if_success (with_reducible refine Nx.is_wp ?_)); (fail_if_success (with_reducible refine Nx.is_mix ?_)); first | refine Nx.ex ?_)
    refine Nx.ret_fn rfl [intsR none 0 []] ⟨none, 0, rfl, rfl⟩ (Ent.vec_nil _ _ _)
  | some a =>
    refine FnSpec.enterP Tryd.func57 rfl Tryd.ntmps57 rfl fun w F => ?_
    repeat' first
      | ((with_reducible refine Nx.is_wp ?_); first | refine Nx.wo ?_ | refine Nx.p_dec rfl rfl (fun hc => ?_) (fun hc => ?_) | refine Nx.p_bool rfl rfl (fun hc => ?_) (fun hc => ?_))
      | ((first | refine Nx.at_op rfl rfl ?_ | refine Nx.m_loud rfl rfl rfl ?_ | refine Nx.at_do rfl rfl rfl rfl ?_ | refine Nx.m_loud_do rfl rfl rfl rfl rfl ?_); first | refine Nx.opr rfl rfl ?_ | refine Nx.so ?_ | refine Nx.sb (fun bx => ?_) | refine Nx.sa (fun A2 c2 => ?_))
      | ((with_reducible refine Nx.is_at ?_); first | refine Nx.a ?_ | ((fail_if_success refine Nx.at_do rfl rfl rfl rfl ?_); first | refine Nx.at_dec_t rfl rfl rfl rfl (by first | assumption | omega) ?_ | refine Nx.at_dec_f rfl rfl rfl rfl (by first | assumption | omega) ?_ | refine Nx.at_split rfl rfl rfl rfl (fun hc => ?_) (fun hc => ?_) | refine Nx.at_splitb rfl rfl rfl rfl (fun hc => ?_) (fun hc => ?_)))
      | ((with_reducible refine Nx.is_mix ?_); first | refine Nx.m ?_ | ((fail_if_success refine Nx.m_quiet_do rfl rfl rfl rfl rfl rfl rfl ?_ ?_); (fail_if_success refine Nx.m_loud_do rfl rfl rfl rfl rfl ?_); first | refine Nx.m_dec_t rfl rfl rfl rfl (by first | assumption | omega) ?_ | refine Nx.m_dec_f rfl rfl rfl rfl (by first | assumption | omega) ?_ | refine Nx.m_split rfl rfl rfl rfl (fun hc => ?_) (fun hc => ?_) | refine Nx.m_splitb rfl rfl rfl rfl (fun hc => ?_) (fun hc => ?_)))
      | ((fail_if_success (with_reducible refine Nx.is_at ?_)); (fail_if_success (with_reducible refine Nx.is_wp ?_)); (fail_if_success (with_reducible refine Nx.is_mix ?_)); first | refine Nx.ex ?_)
    refine Nx.blk_vec 0 0 1 rfl rfl (by omega) ?_
    refine Nx.at_op rfl rfl ?_
    refine Nx.append rfl rfl rfl rfl (by kernel_rfl) rfl (Src.arr hl.arr (by simp) (by omega) (fun u hu => by obtain ⟨z, _, rfl⟩ := List.mem_map.1 hu; rfl)) (by omega) fun A' c' => ?_
    rw [Nat.zero_add, List.nil_append]
    repeat' first
      | ((with_reducible refine Nx.is_wp ?_); first | refine Nx.wo ?_ | refine Nx.p_dec rfl rfl (fun hc => ?_) (fun hc => ?_) | refine Nx.p_bool rfl rfl (fun hc => ?_) (fun hc => ?_))
      | ((first | refine Nx.at_op rfl rfl ?_ | refine Nx.m_loud rfl rfl rfl ?_ | refine Nx.at_do rfl rfl rfl rfl ?_ | refine Nx.m_loud_do rfl rfl rfl rfl rfl ?_); first | refine Nx.opr rfl rfl ?_ | refine Nx.so ?_ | refine Nx.sb (fun bx => ?_) | refine Nx.sa (fun A2 c2 => ?_))
      | ((with_reducible refine Nx.is_at ?_); first | refine Nx.a ?_ | ((fail_if_success refine Nx.at_do rfl rfl rfl rfl ?_); first | refine Nx.at_dec_t rfl rfl rfl rfl (by first | assumption | omega) ?_ | refine Nx.at_dec_f rfl rfl rfl rfl (by first | assumption | omega) ?_ | refine Nx.at_split rfl rfl rfl rfl (fun hc => ?_) (fun hc => ?_) | refine Nx.at_splitb rfl rfl rfl rfl (fun hc => ?_) (fun hc => ?_)))
      | ((with_reducible refine Nx.is_mix ?_); first | refine Nx.m ?_ | ((fail_if_success refine Nx.m_quiet_do rfl rfl rfl rfl rfl rfl rfl ?_ ?_); (fail_if_success refine Nx.m_loud_do rfl rfl rfl rfl rfl ?_); first | refine Nx.m_dec_t rfl rfl rfl rfl (by first | assumption | omega) ?_ | refine Nx.m_dec_f rfl rfl rfl rfl (by first | assumption | omega) ?_ | refine Nx.m_split rfl rfl rfl rfl (fun hc => ?_) (fun hc => ?_) | refine Nx.m_splitb rfl rfl rfl rfl (fun hc => ?_) (fun hc => ?_)))
      | ((fail_if_success (with_reducible refine Nx.is_at ?_)); (fail_if_success (with_reducible refine Nx.is_wp ?_)); (fail_if_success (with_reducible refine Nx.is_mix ?_)); first | refine Nx.ex ?_)
    exact Nx.ret_fn rfl [_] ⟨A', c', rfl, rfl⟩ (by (exact Ent.auto))
set_option maxRecDepth 10000 in
theorem Index_spec (A : Option Addr) (c : Nat) (l : List Int) (z : Int) (I : PH) (hl : Ints I A c l) :
    FnSpec Tryd.prog 75 [.slice A l.length c, .int .i64 z] I [] (fun v R' => ∃ i : Int, v = .int .i64 i ∧ (0 ≤ i ↔ z ∈ l) ∧ R' = []) := by
  have hlen := hl.len
  refine FnSpec.enterP Tryd.func75 rfl Tryd.ntmps75 rfl fun w F => ?_
  repeat' first
    | ((with_reducible refine Nx.is_wp ?_); first | refine Nx.wo ?_ | refine Nx.p_dec rfl rfl (fun hc => ?_) (fun hc => ?_) | refine Nx.p_bool rfl rfl (fun hc => ?_) (fun hc => ?_))
    | ((first | refine Nx.at_op rfl rfl ?_ | refine Nx.m_loud rfl rfl rfl ?_ | refine Nx.at_do rfl rfl rfl rfl ?_ | refine Nx.m_loud_do rfl rfl rfl rfl rfl ?_); first | refine Nx.opr rfl rfl ?_ | refine Nx.so ?_ | refine Nx.sb (fun bx => ?_) | refine Nx.sa (fun A2 c2 => ?_))
    | ((with_reducible refine Nx.is_at ?_); first | refine Nx.a ?_ | ((fail_if_success refine Nx.at_do rfl rfl rfl rfl ?_); first | refine Nx.at_dec_t rfl rfl rfl rfl (by first | assumption | omega) ?_ | refine Nx.at_dec_f rfl rfl rfl rfl (by first | assumption | omega) ?_ | refine Nx.at_split rfl rfl rfl rfl (fun hc => ?_) (fun hc => ?_) | refine Nx.at_splitb rfl rfl rfl rfl (fun hc => ?_) (fun hc => ?_)))
    | ((with_reducible refine Nx.is_mix ?_); first | refine Nx.m ?_ | ((fail_if_success refine Nx.m_quiet_do rfl rfl rfl rfl rfl rfl rfl ?_ ?_); (fail_if_success refine Nx.m_loud_do rfl rfl rfl rfl rfl ?_); first | refine Nx.m_dec_t rfl rfl rfl rfl (by first | assumption | omega) ?_ | refine Nx.m_dec_f rfl rfl rfl rfl (by first | assumption | omega) ?_ | refine Nx.m_split rfl rfl rfl rfl (fun hc => ?_) (fun hc => ?_) | refine Nx.m_splitb rfl rfl rfl rfl (fun hc => ?_) (fun hc => ?_)))
    | ((fail_if_success (with_reducible refine Nx.is_at ?_)); (fail_if_success (with_reducible refine Nx.is_wp ?_)); (fail_if_success (with_reducible refine Nx.is_mix ?_)); first | refine Nx.ex ?_)
  refine Nx.p_loop (σ := Nat) (fun k => [(0, .slice A l.length c), (1, .int .i64 z), (7, .int .i64 l.length), (8, .int .i64 (k : Int))])
    (fun _ => [F]) (fun k => k ≤ l.length ∧ z ∉ l.take k) (fun k => l.length - k) 0 rfl ⟨Nat.zero_le _, by simp⟩ ⟨rfl, rfl, rfl, rfl, trivial⟩ (Ent.refl _) ?_
  rintro k ⟨hk, hnone⟩
  repeat' first
    | ((with_reducible refine Nx.is_wp ?_); first | refine Nx.wo ?_ | refine Nx.p_dec rfl rfl (fun hc => ?_) (fun hc => ?_) | refine Nx.p_bool rfl rfl (fun hc => ?_) (fun hc => ?_))
    | ((first | refine Nx.at_op rfl rfl ?_ | refine Nx.m_loud rfl rfl rfl ?_ | refine Nx.at_do rfl rfl rfl rfl ?_ | refine Nx.m_loud_do rfl rfl rfl rfl rfl ?_); first | refine Nx.opr rfl rfl ?_ | refine Nx.indexAddr_nat rfl rfl rfl rfl rfl (by omega) (hl.isSome (by omega)) ?_ | refine Nx.load rfl rfl rfl (hl.rd (by omega)) ?_ | refine Nx.so ?_ | refine Nx.sb (fun bx => ?_) | refine Nx.sa (fun A2 c2 => ?_))
    | ((with_reducible refine Nx.is_at ?_); first | refine Nx.a ?_ | ((fail_if_success refine Nx.at_do rfl rfl rfl rfl ?_); first | refine Nx.at_dec_t rfl rfl rfl rfl (by first | assumption | omega) ?_ | refine Nx.at_dec_f rfl rfl rfl rfl (by first | assumption | omega) ?_ | refine Nx.at_split rfl rfl rfl rfl (fun hc => ?_) (fun hc => ?_) | refine Nx.at_splitb rfl rfl rfl rfl (fun hc => ?_) (fun hc => ?_)))
    | ((with_reducible refine Nx.is_mix ?_); first | refine Nx.m ?_ | ((fail_if_success refine Nx.m_quiet_do rfl rfl rfl rfl rfl rfl rfl ?_ ?_); (fail_if_success refine Nx.m_loud_do rfl rfl rfl rfl rfl ?_); first | refine Nx.m_dec_t rfl rfl rfl rfl (by first | assumption | omega) ?_ | refine Nx.m_dec_f rfl rfl rfl rfl (by first | assumption | omega) ?_ | refine Nx.m_split rfl rfl rfl rfl (fun hc => ?_) (fun hc => ?_) | refine Nx.m_splitb rfl rfl rfl rfl (fun hc => ?_) (fun hc => ?_)))
    | ((fail_if_success (with_reducible refine Nx.is_at ?_)); (fail_if_success (with_reducible refine Nx.is_wp ?_)); (fail_if_success (with_reducible refine Nx.is_mix ?_)); first | refine Nx.ex ?_)
  · exact Nx.ret_fn rfl [] ⟨_, rfl, ⟨fun _ => hc ▸ getD_memI (by omega), fun _ => by omega⟩, rfl⟩ (Ent.refl _)
  · refine Nx.again (k + 1) ⟨by omega, ?_⟩ (by omega) ⟨rfl, rfl, rfl, rfl, trivial⟩ (Ent.refl _)
    rw [take_snocI (by omega), List.mem_append, List.mem_singleton]
    rintro (h | h)
    · exact hnone h
    · exact hc h
  · obtain rfl : k = l.length := by omega
    rw [List.take_length] at hnone
    exact Nx.ret_fn rfl [] ⟨_, rfl, ⟨fun h => absurd h (by omega), fun h => absurd h hnone⟩, rfl⟩ (Ent.refl _)
set_option maxRecDepth 10000 in
theorem Contains_spec (A : Option Addr) (c : Nat) (l : List Int) (z : Int) (I : PH) (hl : Ints I A c l) :
    FnSpec Tryd.prog 56 [.slice A l.length c, .int .i64 z] I [] (fun v R' => v = .bool (decide (z ∈ l)) ∧ R' = []) := by
  refine FnSpec.enterP Tryd.func56 rfl Tryd.ntmps56 rfl fun w F => ?_
  repeat' first
    | ((with_reducible refine Nx.is_wp ?_); first | refine Nx.wo ?_ | refine Nx.p_dec rfl rfl (fun hc => ?_) (fun hc => ?_) | refine Nx.p_bool rfl rfl (fun hc => ?_) (fun hc => ?_))
    | ((first | refine Nx.at_op rfl rfl ?_ | refine Nx.m_loud rfl rfl rfl ?_ | refine Nx.at_do rfl rfl rfl rfl ?_ | refine Nx.m_loud_do rfl rfl rfl rfl rfl ?_); first | refine Nx.opr rfl rfl ?_ | refine Nx.so ?_ | refine Nx.sb (fun bx => ?_) | refine Nx.sa (fun A2 c2 => ?_))
    | ((with_reducible refine Nx.is_at ?_); first | refine Nx.a ?_ | ((fail_if_success refine Nx.at_do rfl rfl rfl rfl ?_); first | refine Nx.at_dec_t rfl rfl rfl rfl (by first | assumption | omega) ?_ | refine Nx.at_dec_f rfl rfl rfl rfl (by first | assumption | omega) ?_ | refine Nx.at_split rfl rfl rfl rfl (fun hc => ?_) (fun hc => ?_) | refine Nx.at_splitb rfl rfl rfl rfl (fun hc => ?_) (fun hc => ?_)))
    | ((with_reducible refine Nx.is_mix ?_); first | refine Nx.m ?_ | ((fail_if_success refine Nx.m_quiet_do rfl rfl rfl rfl rfl rfl rfl ?_ ?_); (fail_if_success refine Nx.m_loud_do rfl rfl rfl rfl rfl ?_); first | refine Nx.m_dec_t rfl rfl rfl rfl (by first | assumption | omega) ?_ | refine Nx.m_dec_f rfl rfl rfl rfl (by first | assumption | omega) ?_ | refine Nx.m_split rfl rfl rfl rfl (fun hc => ?_) (fun hc => ?_) | refine Nx.m_splitb rfl rfl rfl rfl (fun hc => ?_) (fun hc => ?_)))
    | ((fail_if_success (with_reducible refine Nx.is_at ?_)); (fail_if_success (with_reducible refine Nx.is_wp ?_)); (fail_if_success (with_reducible refine Nx.is_mix ?_)); first | refine Nx.ex ?_)
  refine Nx.at_op rfl rfl ?_
  refine Nx.call rfl rfl rfl (by kernel_rfl) rfl (Index_spec A c l z I hl) (Ent.refl _) ?_
  rintro v R' ⟨i, rfl, hi, rfl⟩
  repeat' first
    | ((with_reducible refine Nx.is_wp ?_); first | refine Nx.wo ?_ | refine Nx.p_dec rfl rfl (fun hc => ?_) (fun hc => ?_) | refine Nx.p_bool rfl rfl (fun hc => ?_) (fun hc => ?_))
    | ((first | refine Nx.at_op rfl rfl ?_ | refine Nx.m_loud rfl rfl rfl ?_ | refine Nx.at_do rfl rfl rfl rfl ?_ | refine Nx.m_loud_do rfl rfl rfl rfl rfl ?_); first | refine Nx.opr rfl rfl ?_ | refine Nx.so ?_ | refine Nx.sb (fun bx => ?_) | refine Nx.sa (fun A2 c2 => ?_))
    | ((with_reducible refine Nx.is_at ?_); first | refine Nx.a ?_ | ((fail_if_success refine Nx.at_do rfl rfl rfl rfl ?_); first | refine Nx.at_dec_t rfl rfl rfl rfl (by first | assumption | omega) ?_ | refine Nx.at_dec_f rfl rfl rfl rfl (by first | assumption | omega) ?_ | refine Nx.at_split rfl rfl rfl rfl (fun hc => ?_) (fun hc => ?_) | refine Nx.at_splitb rfl rfl rfl rfl (fun hc => ?_) (fun hc => ?_)))
    | ((with_reducible refine Nx.is_mix ?_); first | refine Nx.m ?_ | ((fail_if_success refine Nx.m_quiet_do rfl rfl rfl rfl rfl rfl rfl ?_ ?_); (fail_if_success refine Nx.m_loud_do rfl rfl rfl rfl rfl ?_); first | refine Nx.m_dec_t rfl rfl rfl rfl (by first | assumption | omega) ?_ | refine Nx.m_dec_f rfl rfl rfl rfl (by first | assumption | omega) ?_ | refine Nx.m_split rfl rfl rfl rfl (fun hc => ?_) (fun hc => ?_) | refine Nx.m_splitb rfl rfl rfl rfl (fun hc => ?_) (fun hc => ?_)))
    | ((fail_if_success (with_reducible refine Nx.is_at ?_)); (fail_if_success (with_reducible refine Nx.is_wp ?_)); (fail_if_success (with_reducible refine Nx.is_mix ?_)); first | refine Nx.ex ?_)
  exact Nx.ret_fn rfl [] ⟨by rw [decide_eq_decide.2 hi], rfl⟩ (Ent.refl _)
end Go.Proofs.YtpdgnjoideppjaaDoor
/- Contracts of functions of the given program, and lemmas about plain lists and numbers: what the laws of this seat lean on. -/
namespace Go.Proofs.YtpdgnjoideppjaaDoor
open Go.Eng Go.Det
attribute [local irreducible] opK wpList Code.wp Exit.then Exit.inBlock fnPost bodyPost Nx Calls Oper.wp Rd Rds Wr Ent Stars Blk Again Vec FnSpec wpMix QRun Stop Upto wpAt
/-! Some rows of the first columns -/
/-- A row's first columns, one of them replaced by another column (where 'col' is not negative). -/
def lineL (row : List Int) (n : Nat) (col : Int) (by_ : Nat) : List Int := if 0 ≤ col then (row.take n).set col.toNat (row.getD by_ 0) else row.take n
def sqL (m : List (List Int)) (rows : List Nat) (col : Int) (by_ : Nat) : List (List Int) := rows.map fun r => lineL (m.getD r []) rows.length col by_
theorem line_len {row : List Int} {n : Nat} {col : Int} {by_ : Nat} (h : n ≤ row.length) : (lineL row n col by_).length = n := by
  unfold lineL
  split
  · rw [List.length_set, List.length_take]; omega
  · rw [List.length_take]; omega
theorem sqL_len (m : List (List Int)) (rows : List Nat) (col : Int) (by_ : Nat) : (sqL m rows col by_).length = rows.length := List.length_map _
theorem sqL_at {m : List (List Int)} {rows : List Nat} {col : Int} {by_ k : Nat} (hk : k < rows.length) : (sqL m rows col by_)[k]'(by rw [sqL_len]; exact hk) = lineL (m.getD (rows.getD k default) []) rows.length col by_ := by
  have h : rows.getD k default = rows[k] := by rw [List.getD_eq_getElem?_getD, List.getElem?_eq_getElem hk]; rfl
  rw [h]
  unfold sqL
  rw [List.getElem_map]
set_option maxRecDepth 10000 in
set_option maxHeartbeats 8000000 in
theorem square_spec (A : Option Addr) (c : Nat) (v : List Row) (I : PH) (hm : Mat I A c v) (hsq : ∀ k, k < v.length → (v.getD k default).2.2.length = v.length) (h9 : v.length ≤ 1000) (Ar : Option Addr) (cr : Nat) (rows : List Nat) (hr : Nats I Ar cr rows) (hrb : ∀ r ∈ rows, r < v.length) (hrl : rows.length ≤ v.length) (col : Int) (hcol : col < rows.length) (by_ : Nat) (hby : by_ < v.length) :
    FnSpec Tryd.prog 35 [.slice A v.length c, .slice Ar rows.length cr, .int .i64 col, .int .i64 (by_ : Int)] I [] (matPost (sqL (matL v) rows col by_)) := by
  have hlen := hm.outer.len
  have hrlen := hr.len
  have hRl : (sqL (matL v) rows col by_).length = rows.length := by unfold sqL; rw [List.length_map]
  refine FnSpec.enterP Tryd.func35 rfl Tryd.ntmps35 rfl fun w F => ?_
  repeat' first
    | ((with_reducible refine Nx.is_wp ?_); first | refine Nx.wo ?_ | refine Nx.p_dec rfl rfl (fun hc => ?_) (fun hc => ?_) | refine Nx.p_bool rfl rfl (fun hc => ?_) (fun hc => ?_))
    | ((first | refine Nx.at_op rfl rfl ?_ | refine Nx.m_loud rfl rfl rfl ?_ | refine Nx.at_do rfl rfl rfl rfl ?_ | refine Nx.m_loud_do rfl rfl rfl rfl rfl ?_); first | refine Nx.opr rfl rfl ?_ | refine Nx.so ?_ | refine Nx.sb (fun bx => ?_) | refine Nx.sa (fun A2 c2 => ?_))
    | ((with_reducible refine Nx.is_at ?_); first | refine Nx.a ?_ | ((fail_if_success refine Nx.at_do rfl rfl rfl rfl ?_); first | refine Nx.at_dec_t rfl rfl rfl rfl (by first | assumption | omega) ?_ | refine Nx.at_dec_f rfl rfl rfl rfl (by first | assumption | omega) ?_ | refine Nx.at_split rfl rfl rfl rfl (fun hc => ?_) (fun hc => ?_) | refine Nx.at_splitb rfl rfl rfl rfl (fun hc => ?_) (fun hc => ?_)))
    | ((with_reducible refine Nx.is_mix ?_); first | refine Nx.m ?_ | ((fail_if_success refine Nx.m_quiet_do rfl rfl rfl rfl rfl rfl rfl ?_ ?_); (fail_if_success refine Nx.m_loud_do rfl rfl rfl rfl rfl ?_); first | refine Nx.m_dec_t rfl rfl rfl rfl (by first | assumption | omega) ?_ | refine Nx.m_dec_f rfl rfl rfl rfl (by first | assumption | omega) ?_ | refine Nx.m_split rfl rfl rfl rfl (fun hc => ?_) (fun hc => ?_) | refine Nx.m_splitb rfl rfl rfl rfl (fun hc => ?_) (fun hc => ?_)))
    | ((fail_if_success (with_reducible refine Nx.is_at ?_)); (fail_if_success (with_reducible refine Nx.is_wp ?_)); (fail_if_success (with_reducible refine Nx.is_mix ?_)); first | refine Nx.ex ?_)
  refine Nx.p_loop (σ := Nat × Option Addr × Nat × List Row) (fun x => [(0, .slice A v.length c), (1, .slice Ar rows.length cr), (2, .int .i64 col), (3, .int .i64 (by_ : Int)), (9, .slice x.2.1 x.2.2.2.length x.2.2.1), (13, .slice Ar rows.length cr), (14, .int .i64 rows.length), (15, .int .i64 (x.1 : Int))])
    (fun x => [Vec 28 1 x.2.1 x.2.2.2.length x.2.2.1 (x.2.2.2.map rowV), Stars (x.2.2.2.map rowR), F]) (fun x => x.1 ≤ rows.length ∧ x.2.2.2.length = x.1 ∧ matL x.2.2.2 = (sqL (matL v) rows col by_).take x.1) (fun x => rows.length - x.1) (0, none, 0, []) rfl ⟨Nat.zero_le _, rfl, rfl⟩ ⟨rfl, rfl, rfl, rfl, rfl, rfl, rfl, rfl, trivial⟩ ((Ent.vec_nil _ _ _).trans (Ent.pick 0 rfl ((Ent.stars_nil _).trans (by (exact Ent.auto))))) ?_
  rintro ⟨k, Ao, co, o⟩ ⟨hk, hol, hdone⟩
  dsimp only at hk hol hdone ⊢
  by_cases hlt : k < rows.length
  · have hrk : rows.getD k default ∈ rows := by rw [List.getD_eq_getElem?_getD, List.getElem?_eq_getElem hlt]; exact List.getElem_mem _
    have hrv := hrb _ hrk
    have hr0 : ∀ (W : World) (R : List Res), Rd W I R ((ad Ar).add (k * 1)) (.int .i64 ((rows.getD k default : Nat) : Int)) := fun W R => hr.rd hlt
    have hrs := sqL_at (m := matL v) (rows := rows) (col := col) (by_ := by_) hlt
    generalize rows.getD k default = r at hrv hr0 hrs
    rw [matL_at hrv] at hrs
    have hll := hsq r hrv
    have hrow := hm.rows _ (row_mem hrv)
    generalize hrow' : (v.getD r default) = rw' at hll hrow hrs
    obtain ⟨Al, cl, l⟩ := rw'
    dsimp only at hll hrow hrs
    have hmr : ∀ (W : World) (R : List Res), Rd W I R ((ad A).add (r * 1)) (.slice Al v.length cl) := fun W R => by
      have := hm.outer.rd (W := W) (R := R) (k := r) hrv
      rw [hrow', show rowV (Al, cl, l) = .slice Al v.length cl by rw [← hll]; rfl] at this
      exact this
    have hxr : ∀ (W : World) (R : List Res), Rd W I R ((ad Al).add (by_ * 1)) (.int .i64 (l.getD by_ default)) := fun W R => hrow.rd (by omega)
    have hcap := hrow.cap
    have htl : (l.take rows.length).length = rows.length := by rw [List.length_take]; omega
    have hCl := Clone_spec Al cl (l.take rows.length) I (hrow.take rows.length) (by omega)
    rw [htl] at hCl
    repeat' first
      | ((with_reducible refine Nx.is_wp ?_); first | refine Nx.wo ?_ | refine Nx.p_dec rfl rfl (fun hc => ?_) (fun hc => ?_) | refine Nx.p_bool rfl rfl (fun hc => ?_) (fun hc => ?_))
      | ((first | refine Nx.at_op rfl rfl ?_ | refine Nx.m_loud rfl rfl rfl ?_ | refine Nx.at_do rfl rfl rfl rfl ?_ | refine Nx.m_loud_do rfl rfl rfl rfl rfl ?_); first | refine Nx.opr rfl rfl ?_ | refine Nx.indexAddr_nat rfl rfl rfl rfl rfl (by omega) (hr.isSome (by omega)) ?_ | refine Nx.load rfl rfl rfl (hr0 _ _) ?_ | refine Nx.indexAddr_nat rfl rfl rfl rfl rfl (by omega) (hm.outer.isSome (by omega)) ?_ | refine Nx.load rfl rfl rfl (hmr _ _) ?_ | refine Nx.quietly rfl rfl (QRun.slice_hi rfl rfl rfl rfl (by omega)) ?_ | refine Nx.so ?_ | refine Nx.sb (fun bx => ?_) | refine Nx.sa (fun A2 c2 => ?_))
      | ((with_reducible refine Nx.is_at ?_); first | refine Nx.a ?_ | ((fail_if_success refine Nx.at_do rfl rfl rfl rfl ?_); first | refine Nx.at_dec_t rfl rfl rfl rfl (by first | assumption | omega) ?_ | refine Nx.at_dec_f rfl rfl rfl rfl (by first | assumption | omega) ?_ | refine Nx.at_split rfl rfl rfl rfl (fun hc => ?_) (fun hc => ?_) | refine Nx.at_splitb rfl rfl rfl rfl (fun hc => ?_) (fun hc => ?_)))
      | ((with_reducible refine Nx.is_mix ?_); first | refine Nx.m ?_ | ((fail_if_success refine Nx.m_quiet_do rfl rfl rfl rfl rfl rfl rfl ?_ ?_); (fail_if_success refine Nx.m_loud_do rfl rfl rfl rfl rfl ?_); first | refine Nx.m_dec_t rfl rfl rfl rfl (by first | assumption | omega) ?_ | refine Nx.m_dec_f rfl rfl rfl rfl (by first | assumption | omega) ?_ | refine Nx.m_split rfl rfl rfl rfl (fun hc => ?_) (fun hc => ?_) | refine Nx.m_splitb rfl rfl rfl rfl (fun hc => ?_) (fun hc => ?_)))
      | ((fail_if_success (with_reducible refine Nx.is_at ?_)); (fail_if_success (with_reducible refine Nx.is_wp ?_)); (fail_if_success (with_reducible refine Nx.is_mix ?_)); first | refine Nx.ex ?_)
    refine Nx.at_op rfl rfl ?_
    refine Nx.call (Rpre := []) rfl rfl rfl (by kernel_rfl) rfl hCl (Ent.refl _) ?_
    rintro _ _ ⟨A8, c8, rfl, rfl⟩
    refine Nx.ent (R' := [Vec 3 1 A8 rows.length c8 ((l.take rows.length).map (Value.int .i64)), Vec 28 1 Ao o.length co (o.map rowV), Stars (o.map rowR), F]) (by unfold intsR; rw [htl]; (exact Ent.auto)) ?_
    refine Nx.vec_fact fun hv1 hv2 hv3 hA8 => ?_
    have hlast : ∀ (l' : List Int), l' = lineL l rows.length col by_ → l'.length = rows.length → ∀ (A2 : Option Addr) (c2 : Nat), ((o ++ [((A8, c8, l') : Row)]).length = o.length + 1 ∧ matL (o ++ [((A8, c8, l') : Row)]) = (sqL (matL v) rows col by_).take (k + 1)) ∧
        ∀ R, Ent (Vec 28 1 A2 (o.length + 1) c2 (o.map rowV ++ [.slice A8 rows.length c8]) :: Vec 3 1 A8 rows.length c8 (l'.map (Value.int .i64)) :: Stars (o.map rowR) :: R) (Vec 28 1 A2 (o ++ [((A8, c8, l') : Row)]).length c2 ((o ++ [((A8, c8, l') : Row)]).map rowV) :: Stars ((o ++ [((A8, c8, l') : Row)]).map rowR) :: R) := fun l' he hl' A2 c2 => by
      have hol' : (o ++ [((A8, c8, l') : Row)]).length = o.length + 1 := by simp
      refine ⟨⟨hol', ?_⟩, fun R => ?_⟩
      · rw [List.take_succ_eq_append_getElem (by rw [hRl]; exact hlt), hrs, ← hdone, ← he]
        unfold matL
        rw [List.map_append]
        rfl
      · rw [hol', List.map_append, List.map_append]
        refine Ent.trans (R' := rowR (A8, c8, l') :: Stars (o.map rowR) :: Vec 28 1 A2 (o.length + 1) c2 (o.map rowV ++ [.slice A8 rows.length c8]) :: R) (by unfold rowR intsR; dsimp only; rw [hl']; (exact Ent.auto)) (Ent.bundle.trans ?_)
        rw [show ([((A8, c8, l') : Row)].map rowV) = [.slice A8 rows.length c8] by rw [← hl']; rfl]
        (exact Ent.auto)
    by_cases hc0 : 0 ≤ col
    · have hl1 : (l.take rows.length).set col.toNat (l.getD by_ default) = lineL l rows.length col by_ := by unfold lineL; rw [if_pos hc0]; rfl
      repeat' first
        | ((with_reducible refine Nx.is_wp ?_); first | refine Nx.wo ?_ | refine Nx.p_dec rfl rfl (fun hc => ?_) (fun hc => ?_) | refine Nx.p_bool rfl rfl (fun hc => ?_) (fun hc => ?_))
        | ((first | refine Nx.at_op rfl rfl ?_ | refine Nx.m_loud rfl rfl rfl ?_ | refine Nx.at_do rfl rfl rfl rfl ?_ | refine Nx.m_loud_do rfl rfl rfl rfl rfl ?_); first | refine Nx.opr rfl rfl ?_ | refine Nx.indexAddr_nat rfl rfl rfl rfl rfl (by omega) (hm.outer.isSome (by omega)) ?_ | refine Nx.load rfl rfl rfl (hmr _ _) ?_ | refine Nx.indexAddr_nat rfl rfl rfl rfl rfl (by omega) (hrow.isSome (by omega)) ?_ | refine Nx.load rfl rfl rfl (hxr _ _) ?_ | refine Nx.indexAddr rfl rfl rfl rfl rfl (by omega) (by omega) (hA8 (by omega)) ?_ | refine Nx.store_of 0 (Value.int .i64) rfl rfl rfl rfl rfl rfl (by omega) ?_ | refine Nx.so ?_ | refine Nx.sb (fun bx => ?_) | refine Nx.sa (fun A2 c2 => ?_))
        | ((with_reducible refine Nx.is_at ?_); first | refine Nx.a ?_ | ((fail_if_success refine Nx.at_do rfl rfl rfl rfl ?_); first | refine Nx.at_dec_t rfl rfl rfl rfl (by first | assumption | omega) ?_ | refine Nx.at_dec_f rfl rfl rfl rfl (by first | assumption | omega) ?_ | refine Nx.at_split rfl rfl rfl rfl (fun hc => ?_) (fun hc => ?_) | refine Nx.at_splitb rfl rfl rfl rfl (fun hc => ?_) (fun hc => ?_)))
        | ((with_reducible refine Nx.is_mix ?_); first | refine Nx.m ?_ | ((fail_if_success refine Nx.m_quiet_do rfl rfl rfl rfl rfl rfl rfl ?_ ?_); (fail_if_success refine Nx.m_loud_do rfl rfl rfl rfl rfl ?_); first | refine Nx.m_dec_t rfl rfl rfl rfl (by first | assumption | omega) ?_ | refine Nx.m_dec_f rfl rfl rfl rfl (by first | assumption | omega) ?_ | refine Nx.m_split rfl rfl rfl rfl (fun hc => ?_) (fun hc => ?_) | refine Nx.m_splitb rfl rfl rfl rfl (fun hc => ?_) (fun hc => ?_)))
        | ((fail_if_success (with_reducible refine Nx.is_at ?_)); (fail_if_success (with_reducible refine Nx.is_wp ?_)); (fail_if_success (with_reducible refine Nx.is_mix ?_)); first | refine Nx.ex ?_)
      obtain ⟨⟨e1, e2⟩, e3⟩ := hlast _ hl1 (by rw [List.length_set]; exact htl) A2 c2
      exact Nx.again (k + 1, A2, c2, o ++ [(A8, c8, (l.take rows.length).set col.toNat (l.getD by_ default))]) ⟨hlt, by dsimp only; rw [e1, hol], e2⟩ (by dsimp only; omega) ⟨rfl, rfl, rfl, rfl, by dsimp only; rw [e1]; rfl, rfl, rfl, rfl, trivial⟩ (Ent.trans (by (exact Ent.auto)) (e3 [F]))
    · have hl1 : l.take rows.length = lineL l rows.length col by_ := by unfold lineL; rw [if_neg hc0]
      repeat' first
        | ((with_reducible refine Nx.is_wp ?_); first | refine Nx.wo ?_ | refine Nx.p_dec rfl rfl (fun hc => ?_) (fun hc => ?_) | refine Nx.p_bool rfl rfl (fun hc => ?_) (fun hc => ?_))
        | ((first | refine Nx.at_op rfl rfl ?_ | refine Nx.m_loud rfl rfl rfl ?_ | refine Nx.at_do rfl rfl rfl rfl ?_ | refine Nx.m_loud_do rfl rfl rfl rfl rfl ?_); first | refine Nx.opr rfl rfl ?_ | refine Nx.so ?_ | refine Nx.sb (fun bx => ?_) | refine Nx.sa (fun A2 c2 => ?_))
        | ((with_reducible refine Nx.is_at ?_); first | refine Nx.a ?_ | ((fail_if_success refine Nx.at_do rfl rfl rfl rfl ?_); first | refine Nx.at_dec_t rfl rfl rfl rfl (by first | assumption | omega) ?_ | refine Nx.at_dec_f rfl rfl rfl rfl (by first | assumption | omega) ?_ | refine Nx.at_split rfl rfl rfl rfl (fun hc => ?_) (fun hc => ?_) | refine Nx.at_splitb rfl rfl rfl rfl (fun hc => ?_) (fun hc => ?_)))
        | ((with_reducible refine Nx.is_mix ?_); first | refine Nx.m ?_ | ((fail_if_success refine Nx.m_quiet_do rfl rfl rfl rfl rfl rfl rfl ?_ ?_); (fail_if_success refine Nx.m_loud_do rfl rfl rfl rfl rfl ?_); first | refine Nx.m_dec_t rfl rfl rfl rfl (by first | assumption | omega) ?_ | refine Nx.m_dec_f rfl rfl rfl rfl (by first | assumption | omega) ?_ | refine Nx.m_split rfl rfl rfl rfl (fun hc => ?_) (fun hc => ?_) | refine Nx.m_splitb rfl rfl rfl rfl (fun hc => ?_) (fun hc => ?_)))
        | ((fail_if_success (with_reducible refine Nx.is_at ?_)); (fail_if_success (with_reducible refine Nx.is_wp ?_)); (fail_if_success (with_reducible refine Nx.is_mix ?_)); first | refine Nx.ex ?_)
      obtain ⟨⟨e1, e2⟩, e3⟩ := hlast _ hl1 htl A2 c2
      exact Nx.again (k + 1, A2, c2, o ++ [(A8, c8, l.take rows.length)]) ⟨hlt, by dsimp only; rw [e1, hol], e2⟩ (by dsimp only; omega) ⟨rfl, rfl, rfl, rfl, by dsimp only; rw [e1]; rfl, rfl, rfl, rfl, trivial⟩ (Ent.trans (by (exact Ent.auto)) (e3 [F]))
  · obtain rfl : k = rows.length := by omega
    rw [← hRl, List.take_length] at hdone
    repeat' first
      | ((with_reducible refine Nx.is_wp ?_); first | refine Nx.wo ?_ | refine Nx.p_dec rfl rfl (fun hc => ?_) (fun hc => ?_) | refine Nx.p_bool rfl rfl (fun hc => ?_) (fun hc => ?_))
      | ((first | refine Nx.at_op rfl rfl ?_ | refine Nx.m_loud rfl rfl rfl ?_ | refine Nx.at_do rfl rfl rfl rfl ?_ | refine Nx.m_loud_do rfl rfl rfl rfl rfl ?_); first | refine Nx.opr rfl rfl ?_ | refine Nx.so ?_ | refine Nx.sb (fun bx => ?_) | refine Nx.sa (fun A2 c2 => ?_))
      | ((with_reducible refine Nx.is_at ?_); first | refine Nx.a ?_ | ((fail_if_success refine Nx.at_do rfl rfl rfl rfl ?_); first | refine Nx.at_dec_t rfl rfl rfl rfl (by first | assumption | omega) ?_ | refine Nx.at_dec_f rfl rfl rfl rfl (by first | assumption | omega) ?_ | refine Nx.at_split rfl rfl rfl rfl (fun hc => ?_) (fun hc => ?_) | refine Nx.at_splitb rfl rfl rfl rfl (fun hc => ?_) (fun hc => ?_)))
      | ((with_reducible refine Nx.is_mix ?_); first | refine Nx.m ?_ | ((fail_if_success refine Nx.m_quiet_do rfl rfl rfl rfl rfl rfl rfl ?_ ?_); (fail_if_success refine Nx.m_loud_do rfl rfl rfl rfl rfl ?_); first | refine Nx.m_dec_t rfl rfl rfl rfl (by first | assumption | omega) ?_ | refine Nx.m_dec_f rfl rfl rfl rfl (by first | assumption | omega) ?_ | refine Nx.m_split rfl rfl rfl rfl (fun hc => ?_) (fun hc => ?_) | refine Nx.m_splitb rfl rfl rfl rfl (fun hc => ?_) (fun hc => ?_)))
      | ((fail_if_success (with_reducible refine Nx.is_at ?_)); (fail_if_success (with_reducible refine Nx.is_wp ?_)); (fail_if_success (with_reducible refine Nx.is_mix ?_)); first | refine Nx.ex ?_)
    exact Nx.ret_fn rfl [Vec 28 1 Ao o.length co (o.map rowV), Stars (o.map rowR)] ⟨Ao, co, o, rfl, hdone, rfl⟩ (by (exact Ent.auto))
end Go.Proofs.YtpdgnjoideppjaaDoor
/- Contracts of functions of the given program, and lemmas about plain lists and numbers: what the laws of this seat lean on. -/
namespace Go.Proofs.YtpdgnjoideppjaaDoor
open Go.Eng Go.Det
/-! Determinants of some rows and columns -/
theorem take_getD {l : List Int} {n c : Nat} (h : c < n) : (l.take n).getD c 0 = l.getD c 0 := by
  rw [List.getD_eq_getElem?_getD, List.getElem?_take, if_pos h, ← List.getD_eq_getElem?_getD]
theorem sq_ent {m : List (List Int)} {rows : List Nat} {col : Int} {by_ i : Nat} (hi : i < rows.length) : (sqL m rows col by_).getD i [] = lineL (m.getD (rows.getD i default) []) rows.length col by_ := by
  have h := sqL_at (m := m) (col := col) (by_ := by_) hi
  rw [List.getD_eq_getElem?_getD, List.getElem?_eq_getElem (by rw [sqL_len]; exact hi), h]
  rfl
theorem det_sq (m : List (List Int)) (rows : List Nat) : detM (sqL m rows (-1) 0) = minr (entM m) rows (List.range rows.length) := by
  unfold detM
  rw [sqL_len]
  have h := minr_rowmap (entM m) (fun i => rows.getD i default) (List.range rows.length) (List.range rows.length)
  rw [range_map_getD] at h
  rw [← h]
  refine minr_congr _ _ fun i hi c hc => ?_
  show ((sqL m rows (-1) 0).getD i []).getD c 0 = (m.getD (rows.getD i default) []).getD c 0
  rw [sq_ent (List.mem_range.1 hi)]
  unfold lineL
  rw [if_neg (by omega), take_getD (List.mem_range.1 hc)]
theorem det_sq_rep (m : List (List Int)) (rows : List Nat) (j k : Nat) (hj : j < rows.length) (hl : ∀ r ∈ rows, rows.length ≤ (m.getD r []).length) : detM (sqL m rows (j : Int) k) = minr (rep (entM m) j fun r => entM m r k) rows (List.range rows.length) := by
  unfold detM
  rw [sqL_len]
  have h := minr_rowmap (rep (entM m) j fun r => entM m r k) (fun i => rows.getD i default) (List.range rows.length) (List.range rows.length)
  rw [range_map_getD] at h
  rw [← h]
  refine minr_congr _ _ fun i hi c hc => ?_
  have hi := List.mem_range.1 hi
  have hc := List.mem_range.1 hc
  have hm : rows.getD i default ∈ rows := by rw [List.getD_eq_getElem?_getD, List.getElem?_eq_getElem hi]; exact List.getElem_mem _
  have hlen := hl _ hm
  show ((sqL m rows (j : Int) k).getD i []).getD c 0 = if c = j then (m.getD (rows.getD i default) []).getD k 0 else (m.getD (rows.getD i default) []).getD c 0
  rw [sq_ent hi]
  unfold lineL
  rw [if_pos (by omega), Int.toNat_natCast]
  by_cases hcj : c = j
  · subst hcj
    rw [if_pos rfl, List.getD_eq_getElem?_getD, List.getElem?_set_self (by rw [List.length_take]; omega)]
    rfl
  · rw [if_neg hcj, List.getD_eq_getElem?_getD, List.getElem?_set_ne (Ne.symm hcj), ← List.getD_eq_getElem?_getD, take_getD hc]
end Go.Proofs.YtpdgnjoideppjaaDoor
/- Contracts of functions of the given program, and lemmas about plain lists and numbers: what the laws of this seat lean on. -/
namespace Go.Proofs.YtpdgnjoideppjaaDoor
open Go.Eng Go.Det
attribute [local irreducible] opK wpList Code.wp Exit.then Exit.inBlock fnPost bodyPost Nx Calls Oper.wp Rd Rds Wr Ent Stars Blk Again Vec FnSpec wpMix QRun Stop Upto wpAt
/-! Independent rows -/
theorem nodup_le {R : List Nat} {n : Nat} (hn : R.Nodup) (hb : ∀ x ∈ R, x < n) : R.length ≤ n := by
  have := rsum_sub (fun _ _ => 1) 0 R (List.range n) hn fun x hx => List.mem_range.2 (hb x hx)
  have hs : ∀ l : List Nat, rsum (fun _ _ => 1) 0 l = l.length := fun l => by
    induction l with
    | nil => rfl
    | cons a l ih => rw [rsum, ih, List.length_cons]; show 1 + l.length = _; omega
  rw [hs, hs, List.length_range] at this
  exact this
theorem nodup_snoc {R : List Nat} {r : Nat} (h : R.Nodup) (hr : r ∉ R) : (R ++ [r]).Nodup := by
  rw [List.nodup_append]
  exact ⟨h, by simp, fun a ha b hb hab => hr (by simp at hb; rw [← hb, ← hab]; exact ha)⟩
theorem nodup_all {R : List Nat} {n : Nat} (hn : R.Nodup) (hb : ∀ x ∈ R, x < n) (hl : R.length = n) : R.Perm (List.range n) := by
  rw [List.perm_ext_iff_of_nodup hn List.nodup_range]
  intro x
  rw [List.mem_range]
  refine ⟨hb x, fun hx => Classical.byContradiction fun hx2 => ?_⟩
  have := nodup_le (nodup_snoc hn hx2) (n := n) fun y hy => by
    rcases List.mem_append.1 hy with h | h
    · exact hb y h
    · simp at h; omega
  simp at this
  omega
/-- Rows in which the first columns, as many as rows, do not depend on each other. -/
structure Ind (m : List (List Int)) (R : List Nat) : Prop where
  nd : R.Nodup
  lt : ∀ r ∈ R, r < m.length
  det : minr (entM m) R (List.range R.length) ≠ 0
/-- No further row adds anything. -/
def Full (m : List (List Int)) (R : List Nat) : Prop := R.length < m.length → ∀ r, r < m.length → minr (entM m) (R ++ [r]) (List.range (R.length + 1)) = 0
theorem Ind.le {m : List (List Int)} {R : List Nat} (h : Ind m R) : R.length ≤ m.length := nodup_le h.nd h.lt
theorem Ind.nil (m : List (List Int)) : Ind m [] := ⟨List.nodup_nil, by simp, by show (1 : Int) ≠ 0; decide⟩
theorem Ind.snoc {m : List (List Int)} {R : List Nat} (h : Ind m R) {r : Nat} (hr : r < m.length) (hn : r ∉ R) (hd : minr (entM m) (R ++ [r]) (List.range (R.length + 1)) ≠ 0) : Ind m (R ++ [r]) := by
  refine ⟨nodup_snoc h.nd hn, fun x hx => ?_, by rw [List.length_append, List.length_singleton]; exact hd⟩
  rcases List.mem_append.1 hx with h1 | h1
  · exact h.lt x h1
  · simp at h1; omega
theorem Ind.dup {m : List (List Int)} {R : List Nat} {r : Nat} (h : r ∈ R) : minr (entM m) (R ++ [r]) (List.range (R.length + 1)) = 0 := by
  obtain ⟨p, q, rfl⟩ := List.append_of_mem h
  have := minr_same (entM m) r (List.range ((p ++ r :: q).length + 1)) p q []
  rw [List.append_assoc]
  exact this
theorem perm_zero {A : Nat → Nat → Int} {R S : List Nat} (h : R.Perm S) (cs : List Nat) : minr A R cs = 0 ↔ minr A S cs = 0 := by
  obtain ⟨s, hs, he⟩ := minr_perm A h
  rw [he cs]
  rcases hs with rfl | rfl <;> omega
/-- Where the determinant is 0, the rows are fewer than the matrix. -/
theorem Ind.few {m : List (List Int)} {R : List Nat} (h : Ind m R) (hz : detM m = 0) : R.length < m.length := by
  rcases Nat.lt_or_eq_of_le h.le with h1 | h1
  · exact h1
  · exfalso
    refine h.det ((perm_zero (nodup_all h.nd h.lt h1) _).2 ?_)
    rw [h1]
    exact hz
/-- Numerators and the denominator. -/
def numN (m : List (List Int)) (R : List Nat) (k j : Nat) : Int := minr (rep (entM m) j fun r => entM m r k) R (List.range k)
def denD (m : List (List Int)) (R : List Nat) (k : Nat) : Int := minr (entM m) R (List.range k)
/-- A column as a sum of those before it, in all rows. -/
theorem full_comb {m : List (List Int)} {R : List Nat} {k : Nat} (hl : R.length = k) (hk : k < m.length) (hf : Full m R) {r : Nat} (hr : r < m.length) :
    denD m R k * entM m r k = comb (entM m) (numN m R k) (List.range k) r :=
  kernel (entM m) k r R hl (by have := hf (by omega) r hr; rw [hl] at this; exact this)
/-- Larger parts of the matrix have the determinant 0. -/
theorem full_max {m : List (List Int)} {R S : List Nat} {k : Nat} (hl : R.length = k) (hk : k < m.length) (hi : Ind m R) (hf : Full m R) (hSb : ∀ r ∈ S, r < m.length) {n : Nat} (hS : S.length = n) (hkn : k < n) : minr (entM m) S (List.range n) = 0 := by
  have hD : denD m R k ≠ 0 := by have := hi.det; rw [hl] at this; exact this
  have hl2 : S.length = (List.range n).length := by rw [List.length_range]; exact hS
  have hj : k ∈ List.range n := List.mem_range.2 hkn
  have h1 := rep_lin (entM m) k (fun r => entM m r k) (fun _ => 0) (denD m R k) 0 S _ hl2 List.nodup_range hj
  have h2 := rep_comb (entM m) (numN m R k) k S _ hl2 List.nodup_range hj (List.range k) (fun i hi => List.mem_range.2 (by have := List.mem_range.1 hi; omega)) List.nodup_range
  rw [if_neg (by simp)] at h2
  rw [rep_self] at h1
  have h3 : minr (rep (entM m) k fun r => denD m R k * (fun r => entM m r k) r + 0 * (fun _ => 0) r) S (List.range n) = minr (rep (entM m) k (comb (entM m) (numN m R k) (List.range k))) S (List.range n) := minr_congr S _ fun r hr c _ => by
    unfold rep
    dsimp only
    rw [full_comb hl hk hf (hSb r hr)]
    simp
  rw [h3, h2] at h1
  rcases Int.mul_eq_zero.1 (show denD m R k * minr (entM m) S (List.range n) = 0 by omega) with h | h
  · exact absurd h hD
  · exact h
/-- How the first column that depends on those before does so: the numbers that these are to be multiplied with. -/
def Ker (m : List (List Int)) (k : Nat) (x : Nat → Rat) : Prop := ∃ R, Ind m R ∧ Full m R ∧ R.length = k ∧ k < m.length ∧ ∀ j, j < k → x j = Rat.divInt (-numN m R k j) (denD m R k)
theorem Ker.same {m : List (List Int)} {k l : Nat} {x y : Nat → Rat} (h : Ker m k x) (h2 : Ker m l y) : k = l ∧ ∀ j, j < k → x j = y j := by
  obtain ⟨R, hi, hf, hl, hk, hx⟩ := h
  obtain ⟨S, hi2, hf2, hl2, hk2, hy⟩ := h2
  have e1 : ¬ k < l := fun hlt => by
    have := full_max hl hk hi hf hi2.lt hl2 hlt
    have h3 := hi2.det
    rw [hl2] at h3
    exact h3 this
  have e2 : ¬ l < k := fun hlt => by
    have := full_max hl2 hk2 hi2 hf2 hi.lt hl hlt
    have h3 := hi.det
    rw [hl] at h3
    exact h3 this
  obtain rfl : k = l := by omega
  refine ⟨rfl, fun j hj => ?_⟩
  have hD : denD m R k ≠ 0 := by have := hi.det; rw [hl] at this; exact this
  have hE : denD m S k ≠ 0 := by have := hi2.det; rw [hl2] at this; exact this
  rw [hx j hj, hy j hj, Rat.divInt_eq_divInt_iff hD hE]
  have hl3 : S.length = (List.range k).length := by rw [List.length_range]; exact hl2
  have hjm : j ∈ List.range k := List.mem_range.2 hj
  have h1 := cramer (entM m) (numN m R k) (fun r => denD m R k * entM m r k) j S (List.range k) hl3 List.nodup_range hjm fun r hr => full_comb hl hk hf (hi2.lt r hr)
  have h3 := rep_lin (entM m) j (fun r => entM m r k) (fun _ => 0) (denD m R k) 0 S _ hl3 List.nodup_range hjm
  simp only [Int.zero_mul, Int.add_zero] at h3
  rw [h3] at h1
  have h4 : denD m R k * numN m S k j = numN m R k j * denD m S k := h1
  rw [Int.neg_mul, Int.neg_mul, ← h4, Int.mul_comm]
/-! Square parts of a matrix -/
theorem sq_small {m : List (List Int)} (hf : Fit m) {rows : List Nat} {col : Int} {by_ : Nat} (hr : ∀ r ∈ rows, r < m.length) (hl : rows.length ≤ m.length) (hby : by_ < m.length) : Small (sqL m rows col by_) := by
  intro row hrow
  obtain ⟨r, hrm, rfl⟩ := List.mem_map.1 hrow
  have hrb := hr r hrm
  have hmem : m.getD r [] ∈ m := by rw [List.getD_eq_getElem?_getD, List.getElem?_eq_getElem hrb]; exact List.getElem_mem _
  have hlen := hf.len _ hmem
  have hrng := hf.rng _ hmem
  refine ⟨by rw [line_len (by omega)]; have := hf.few; omega, fun x hx => ?_⟩
  unfold lineL at hx
  split at hx
  · rcases List.mem_or_eq_of_mem_set hx with h | h
    · exact hrng x (List.mem_of_mem_take h)
    · subst h
      rw [List.getD_eq_getElem?_getD, List.getElem?_eq_getElem (by omega)]
      exact hrng _ (List.getElem_mem _)
  · exact hrng x (List.mem_of_mem_take hx)
theorem sq_rows {m : List (List Int)} (hf : Fit m) {rows : List Nat} {col : Int} {by_ : Nat} (hr : ∀ r ∈ rows, r < m.length) (hl : rows.length ≤ m.length) {o : List Row} (ho : matL o = sqL m rows col by_) : o.length = rows.length ∧ ∀ k, k < o.length → (o.getD k default).2.2.length = o.length := by
  have hol : o.length = rows.length := by rw [← matL_len, ho, sqL_len]
  refine ⟨hol, fun k hk => ?_⟩
  rw [← matL_at hk, ho, sq_ent (by omega), line_len, hol]
  have hm : rows.getD k default ∈ rows := by rw [List.getD_eq_getElem?_getD, List.getElem?_eq_getElem (by omega)]; exact List.getElem_mem _
  have hrb := hr _ hm
  have hmem : m.getD (rows.getD k default) [] ∈ m := by rw [List.getD_eq_getElem?_getD, List.getElem?_eq_getElem hrb]; exact List.getElem_mem _
  rw [hf.len _ hmem]
  exact hl
theorem num_bd {m : List (List Int)} (hf : Fit m) {R : List Nat} (hi : Ind m R) (hk : R.length < m.length) {j : Nat} (hj : j < R.length) : (numN m R R.length j).natAbs ≤ T120 := by
  unfold numN
  rw [rep_last _ hj R rfl, Int.natAbs_mul]
  have h1 : (sg (R.length - 1 - j)).natAbs = 1 := by rcases sg_or (R.length - 1 - j) with h | h <;> rw [h] <;> rfl
  rw [h1, Nat.one_mul]
  refine minr_bd hf hi.nd hi.lt ?_ fun c hc => ?_
  · rw [List.nodup_append]
    refine ⟨List.nodup_range, List.nodup_range', fun a ha b hb => ?_⟩
    have := List.mem_range.1 ha
    have := List.mem_range'_1.1 hb
    omega
  · rcases List.mem_append.1 hc with h | h
    · have := List.mem_range.1 h; omega
    · have := List.mem_range'_1.1 h; omega
theorem den_bd {m : List (List Int)} (hf : Fit m) {R : List Nat} (hi : Ind m R) : (denD m R R.length).natAbs ≤ T120 :=
  minr_bd hf hi.nd hi.lt List.nodup_range fun c hc => by have := List.mem_range.1 hc; have := hi.le; omega
theorem sq_num {m : List (List Int)} (hf : Fit m) {R : List Nat} (hi : Ind m R) {j : Nat} (hj : j < R.length) : detM (sqL m R (j : Int) R.length) = numN m R R.length j :=
  det_sq_rep m R j R.length hj fun r hr => by
    have hrb := hi.lt r hr
    have hmem : m.getD r [] ∈ m := by rw [List.getD_eq_getElem?_getD, List.getElem?_eq_getElem hrb]; exact List.getElem_mem _
    rw [hf.len _ hmem]
    exact hi.le
end Go.Proofs.YtpdgnjoideppjaaDoor
/-
  The proof engine, part AF: a body with a label that nothing jumps to (a labelled 'continue' is an exit of a block).
-/
namespace Go.Eng
/-- Nothing goes on behind a jump. -/
def NoG (Q : Exit → Act → World → Prop) : Prop := ∀ l a w, ¬ Q (.goto l) a w
theorem NoG.fn {P : Program} {fn : Func} {I : PH} {F : Res} {W : World} {Post : Value → List Res → Prop} : NoG (fnPost P fn I F W Post) := fun _ _ _ h => h
theorem NoG.then_ {K : Act → World → Prop} {Q : Exit → Act → World → Prop} (h : NoG Q) : NoG (Exit.then K Q) := fun l a w hq => h l a w hq
theorem NoG.inB {id : Nat} {Q : Exit → Act → World → Prop} (h : NoG Q) : NoG (Exit.inBlock id Q) := fun l a w hq => h l a w hq
section
variable {C : Cx} {e : Env} {I : PH} {R : List Res} {Q : Exit → Act → World → Prop} {c : Code}
theorem Nx.p_scope (hk : ck c = 10) (hg : NoG Q) (h : Nx C e I R ((cl c).wp C.P Q)) : Nx C e I R (c.wp C.P Q) := by
  have key : ∀ d : Code, Nx C e I R (d.wp C.P Q) → Nx C e I R ((Code.scope d).wp C.P Q) := fun d hd a w ha hw => wp_scope_straight (wp_mono (hd a w ha hw) fun ex a1 w1 hq => by
    cases ex <;> first | exact hq | exact absurd hq (hg _ _ _))
  cases c <;> first | exact key _ h | (simp [ck] at hk; done) | (rename_i d; cases d <;> simp [ck] at hk)
end
end Go.Eng
/- Contracts of functions of the given program, and lemmas about plain lists and numbers: what the laws of this seat lean on. -/
namespace Go.Proofs.YtpdgnjoideppjaaDoor
open Go.Eng Go.Det
attribute [local irreducible] opK wpList Code.wp Exit.then Exit.inBlock fnPost bodyPost Nx Calls Oper.wp Rd Rds Wr Ent Stars Blk Again Vec FnSpec wpMix QRun Stop Upto wpAt
/-! Independent rows, one after the other -/
theorem nats_ints {I : PH} {A : Option Addr} {c : Nat} {l : List Nat} (h : Nats I A c l) : Ints I A c (l.map Int.ofNat) :=
  ⟨by have := h.arr; rw [List.map_map]; exact this, by rw [List.length_map]; exact h.cap, h.max⟩
theorem mem_cast {l : List Nat} {r : Nat} : ((r : Int) ∈ l.map Int.ofNat) ↔ r ∈ l := by
  rw [List.mem_map]
  exact ⟨fun ⟨x, hx, he⟩ => by rw [← Int.ofNat.inj he]; exact hx, fun h => ⟨r, h, rfl⟩⟩
theorem Contains_nats (A : Option Addr) (c : Nat) (l : List Nat) (r : Nat) (I : PH) (hl : Nats I A c l) :
    FnSpec Tryd.prog 56 [.slice A l.length c, .int .i64 (r : Int)] I [] (fun v R' => v = .bool (decide (r ∈ l)) ∧ R' = []) := by
  have h := Contains_spec A c (l.map Int.ofNat) (r : Int) I (nats_ints hl)
  rw [List.length_map, decide_eq_decide.2 mem_cast] at h
  exact h
theorem Clone_nats (A : Option Addr) (c : Nat) (l : List Nat) (I : PH) (hl : Nats I A c l) (h9 : l.length ≤ 1000000) :
    FnSpec Tryd.prog 57 [.slice A l.length c] I [] (fun v R' => ∃ A' c', v = .slice A' l.length c' ∧ R' = [natsR A' c' l]) := by
  have h := Clone_spec A c (l.map Int.ofNat) I (nats_ints hl) (by rw [List.length_map]; exact h9)
  rw [List.length_map] at h
  unfold intsR at h
  rw [List.length_map, List.map_map] at h
  exact h
set_option maxRecDepth 10000 in
set_option maxHeartbeats 8000000 in
theorem independent_spec (A : Option Addr) (c : Nat) (v : List Row) (I : PH) (hm : Mat I A c v) (hf : Fit (matL v)) :
    FnSpec Tryd.prog 34 [.slice A v.length c] I [] (fun u R' => ∃ (A' : Option Addr) (c' : Nat) (R : List Nat), u = .slice A' R.length c' ∧ Ind (matL v) R ∧ Full (matL v) R ∧ R' = [natsR A' c' R]) := by
  have hml := matL_len v
  have hfew := hf.few
  rw [hml] at hfew
  have hsq := hf.sq
  have hvl := hm.outer.len
  refine FnSpec.enterP Tryd.func34 rfl Tryd.ntmps34 rfl fun w F => ?_
  repeat' first
    | refine Nx.p_scope rfl (by repeat first | exact NoG.fn | refine NoG.then_ ?_ | refine NoG.inB ?_) ?_
    | ((with_reducible refine Nx.is_wp ?_); first | refine Nx.wo ?_ | refine Nx.p_dec rfl rfl (fun hc => ?_) (fun hc => ?_) | refine Nx.p_bool rfl rfl (fun hc => ?_) (fun hc => ?_))
    | ((first | refine Nx.at_op rfl rfl ?_ | refine Nx.m_loud rfl rfl rfl ?_ | refine Nx.at_do rfl rfl rfl rfl ?_ | refine Nx.m_loud_do rfl rfl rfl rfl rfl ?_); first | refine Nx.opr rfl rfl ?_ | refine Nx.so ?_ | refine Nx.sb (fun bx => ?_) | refine Nx.sa (fun A2 c2 => ?_))
    | ((with_reducible refine Nx.is_at ?_); first | refine Nx.a ?_ | ((fail_if_success refine Nx.at_do rfl rfl rfl rfl ?_); first | refine Nx.at_dec_t rfl rfl rfl rfl (by first | assumption | omega) ?_ | refine Nx.at_dec_f rfl rfl rfl rfl (by first | assumption | omega) ?_ | refine Nx.at_split rfl rfl rfl rfl (fun hc => ?_) (fun hc => ?_) | refine Nx.at_splitb rfl rfl rfl rfl (fun hc => ?_) (fun hc => ?_)))
    | ((with_reducible refine Nx.is_mix ?_); first | refine Nx.m ?_ | ((fail_if_success refine Nx.m_quiet_do rfl rfl rfl rfl rfl rfl rfl ?_ ?_); (fail_if_success refine Nx.m_loud_do rfl rfl rfl rfl rfl ?_); first | refine Nx.m_dec_t rfl rfl rfl rfl (by first | assumption | omega) ?_ | refine Nx.m_dec_f rfl rfl rfl rfl (by first | assumption | omega) ?_ | refine Nx.m_split rfl rfl rfl rfl (fun hc => ?_) (fun hc => ?_) | refine Nx.m_splitb rfl rfl rfl rfl (fun hc => ?_) (fun hc => ?_)))
    | ((fail_if_success (with_reducible refine Nx.is_at ?_)); (fail_if_success (with_reducible refine Nx.is_wp ?_)); (fail_if_success (with_reducible refine Nx.is_mix ?_)); first | refine Nx.ex ?_)
  refine Nx.p_loop (σ := Option Addr × Nat × List Nat) (fun x => [(0, .slice A v.length c), (3, .slice x.1 x.2.2.length x.2.1)]) (fun x => [natsR x.1 x.2.1 x.2.2, F]) (fun x => Ind (matL v) x.2.2) (fun x => v.length - x.2.2.length) (none, 0, []) rfl (Ind.nil _) ⟨rfl, rfl, trivial⟩ ((Ent.vec_nil _ _ _).trans (by (exact Ent.auto))) ?_
  rintro ⟨A1, c1, R⟩ hInd
  dsimp only at hInd ⊢
  have hRl := hInd.le
  rw [hml] at hRl
  by_cases hlt : R.length < v.length
  case neg =>
    repeat' first
      | ((with_reducible refine Nx.is_wp ?_); first | refine Nx.wo ?_ | refine Nx.p_dec rfl rfl (fun hc => ?_) (fun hc => ?_) | refine Nx.p_bool rfl rfl (fun hc => ?_) (fun hc => ?_))
      | ((first | refine Nx.at_op rfl rfl ?_ | refine Nx.m_loud rfl rfl rfl ?_ | refine Nx.at_do rfl rfl rfl rfl ?_ | refine Nx.m_loud_do rfl rfl rfl rfl rfl ?_); first | refine Nx.opr rfl rfl ?_ | refine Nx.so ?_ | refine Nx.sb (fun bx => ?_) | refine Nx.sa (fun A2 c2 => ?_))
      | ((with_reducible refine Nx.is_at ?_); first | refine Nx.a ?_ | ((fail_if_success refine Nx.at_do rfl rfl rfl rfl ?_); first | refine Nx.at_dec_t rfl rfl rfl rfl (by first | assumption | omega) ?_ | refine Nx.at_dec_f rfl rfl rfl rfl (by first | assumption | omega) ?_ | refine Nx.at_split rfl rfl rfl rfl (fun hc => ?_) (fun hc => ?_) | refine Nx.at_splitb rfl rfl rfl rfl (fun hc => ?_) (fun hc => ?_)))
      | ((with_reducible refine Nx.is_mix ?_); first | refine Nx.m ?_ | ((fail_if_success refine Nx.m_quiet_do rfl rfl rfl rfl rfl rfl rfl ?_ ?_); (fail_if_success refine Nx.m_loud_do rfl rfl rfl rfl rfl ?_); first | refine Nx.m_dec_t rfl rfl rfl rfl (by first | assumption | omega) ?_ | refine Nx.m_dec_f rfl rfl rfl rfl (by first | assumption | omega) ?_ | refine Nx.m_split rfl rfl rfl rfl (fun hc => ?_) (fun hc => ?_) | refine Nx.m_splitb rfl rfl rfl rfl (fun hc => ?_) (fun hc => ?_)))
      | ((fail_if_success (with_reducible refine Nx.is_at ?_)); (fail_if_success (with_reducible refine Nx.is_wp ?_)); (fail_if_success (with_reducible refine Nx.is_mix ?_)); first | refine Nx.ex ?_)
    exact Nx.ret_fn rfl [natsR A1 c1 R] ⟨A1, c1, R, rfl, hInd, fun h => absurd h (by omega), rfl⟩ (by (exact Ent.auto))
  repeat' first
    | ((with_reducible refine Nx.is_wp ?_); first | refine Nx.wo ?_ | refine Nx.p_dec rfl rfl (fun hc => ?_) (fun hc => ?_) | refine Nx.p_bool rfl rfl (fun hc => ?_) (fun hc => ?_))
    | ((first | refine Nx.at_op rfl rfl ?_ | refine Nx.m_loud rfl rfl rfl ?_ | refine Nx.at_do rfl rfl rfl rfl ?_ | refine Nx.m_loud_do rfl rfl rfl rfl rfl ?_); first | refine Nx.opr rfl rfl ?_ | refine Nx.so ?_ | refine Nx.sb (fun bx => ?_) | refine Nx.sa (fun A2 c2 => ?_))
    | ((with_reducible refine Nx.is_at ?_); first | refine Nx.a ?_ | ((fail_if_success refine Nx.at_do rfl rfl rfl rfl ?_); first | refine Nx.at_dec_t rfl rfl rfl rfl (by first | assumption | omega) ?_ | refine Nx.at_dec_f rfl rfl rfl rfl (by first | assumption | omega) ?_ | refine Nx.at_split rfl rfl rfl rfl (fun hc => ?_) (fun hc => ?_) | refine Nx.at_splitb rfl rfl rfl rfl (fun hc => ?_) (fun hc => ?_)))
    | ((with_reducible refine Nx.is_mix ?_); first | refine Nx.m ?_ | ((fail_if_success refine Nx.m_quiet_do rfl rfl rfl rfl rfl rfl rfl ?_ ?_); (fail_if_success refine Nx.m_loud_do rfl rfl rfl rfl rfl ?_); first | refine Nx.m_dec_t rfl rfl rfl rfl (by first | assumption | omega) ?_ | refine Nx.m_dec_f rfl rfl rfl rfl (by first | assumption | omega) ?_ | refine Nx.m_split rfl rfl rfl rfl (fun hc => ?_) (fun hc => ?_) | refine Nx.m_splitb rfl rfl rfl rfl (fun hc => ?_) (fun hc => ?_)))
    | ((fail_if_success (with_reducible refine Nx.is_at ?_)); (fail_if_success (with_reducible refine Nx.is_wp ?_)); (fail_if_success (with_reducible refine Nx.is_mix ?_)); first | refine Nx.ex ?_)
  refine Nx.p_loop (σ := Nat) (fun r => [(0, .slice A v.length c), (3, .slice A1 R.length c1), (12, .int .i64 v.length), (13, .int .i64 (r : Int))]) (fun _ => [natsR A1 c1 R, F]) (fun r => r ≤ v.length ∧ ∀ r', r' < r → minr (entM (matL v)) (R ++ [r']) (List.range (R.length + 1)) = 0) (fun r => v.length - r) 0 rfl ⟨Nat.zero_le _, fun i hi => absurd hi (Nat.not_lt_zero _)⟩ ⟨rfl, rfl, rfl, rfl, trivial⟩ (by (exact Ent.auto)) ?_
  rintro r ⟨hr, hno⟩
  dsimp only at hr hno ⊢
  by_cases hrl : r < v.length
  case neg =>
    repeat' first
      | ((with_reducible refine Nx.is_wp ?_); first | refine Nx.wo ?_ | refine Nx.p_dec rfl rfl (fun hc => ?_) (fun hc => ?_) | refine Nx.p_bool rfl rfl (fun hc => ?_) (fun hc => ?_))
      | ((first | refine Nx.at_op rfl rfl ?_ | refine Nx.m_loud rfl rfl rfl ?_ | refine Nx.at_do rfl rfl rfl rfl ?_ | refine Nx.m_loud_do rfl rfl rfl rfl rfl ?_); first | refine Nx.opr rfl rfl ?_ | refine Nx.so ?_ | refine Nx.sb (fun bx => ?_) | refine Nx.sa (fun A2 c2 => ?_))
      | ((with_reducible refine Nx.is_at ?_); first | refine Nx.a ?_ | ((fail_if_success refine Nx.at_do rfl rfl rfl rfl ?_); first | refine Nx.at_dec_t rfl rfl rfl rfl (by first | assumption | omega) ?_ | refine Nx.at_dec_f rfl rfl rfl rfl (by first | assumption | omega) ?_ | refine Nx.at_split rfl rfl rfl rfl (fun hc => ?_) (fun hc => ?_) | refine Nx.at_splitb rfl rfl rfl rfl (fun hc => ?_) (fun hc => ?_)))
      | ((with_reducible refine Nx.is_mix ?_); first | refine Nx.m ?_ | ((fail_if_success refine Nx.m_quiet_do rfl rfl rfl rfl rfl rfl rfl ?_ ?_); (fail_if_success refine Nx.m_loud_do rfl rfl rfl rfl rfl ?_); first | refine Nx.m_dec_t rfl rfl rfl rfl (by first | assumption | omega) ?_ | refine Nx.m_dec_f rfl rfl rfl rfl (by first | assumption | omega) ?_ | refine Nx.m_split rfl rfl rfl rfl (fun hc => ?_) (fun hc => ?_) | refine Nx.m_splitb rfl rfl rfl rfl (fun hc => ?_) (fun hc => ?_)))
      | ((fail_if_success (with_reducible refine Nx.is_at ?_)); (fail_if_success (with_reducible refine Nx.is_wp ?_)); (fail_if_success (with_reducible refine Nx.is_mix ?_)); first | refine Nx.ex ?_)
    exact Nx.ret_fn rfl [natsR A1 c1 R] ⟨A1, c1, R, rfl, hInd, fun _ r' hr' => hno r' (by omega), rfl⟩ (by (exact Ent.auto))
  have hstep : minr (entM (matL v)) (R ++ [r]) (List.range (R.length + 1)) = 0 → ∀ r', r' < r + 1 → minr (entM (matL v)) (R ++ [r']) (List.range (R.length + 1)) = 0 := fun h0 r' h' => by
    by_cases he : r' = r
    · rw [he]; exact h0
    · exact hno r' (by omega)
  by_cases hmem : r ∈ R
  · repeat' first
      | ((with_reducible refine Nx.is_wp ?_); first | refine Nx.wo ?_ | refine Nx.p_dec rfl rfl (fun hc => ?_) (fun hc => ?_) | refine Nx.p_bool rfl rfl (fun hc => ?_) (fun hc => ?_))
      | ((first | refine Nx.at_op rfl rfl ?_ | refine Nx.m_loud rfl rfl rfl ?_ | refine Nx.at_do rfl rfl rfl rfl ?_ | refine Nx.m_loud_do rfl rfl rfl rfl rfl ?_); first | refine Nx.opr rfl rfl ?_ | (refine Nx.call_lendR 0 rfl rfl rfl (by kernel_rfl) rfl rfl (fun m1 I' hI hm1 h1 => Contains_nats A1 c1 R r I' (Vec.sliceOf hm1 h1)) ?_; rintro _ _ ⟨rfl, rfl⟩; rw [decide_eq_true hmem]) | refine Nx.so ?_ | refine Nx.sb (fun bx => ?_) | refine Nx.sa (fun A2 c2 => ?_))
      | ((with_reducible refine Nx.is_at ?_); first | refine Nx.a ?_ | ((fail_if_success refine Nx.at_do rfl rfl rfl rfl ?_); first | refine Nx.at_dec_t rfl rfl rfl rfl (by first | assumption | omega) ?_ | refine Nx.at_dec_f rfl rfl rfl rfl (by first | assumption | omega) ?_ | refine Nx.at_split rfl rfl rfl rfl (fun hc => ?_) (fun hc => ?_) | refine Nx.at_splitb rfl rfl rfl rfl (fun hc => ?_) (fun hc => ?_)))
      | ((with_reducible refine Nx.is_mix ?_); first | refine Nx.m ?_ | ((fail_if_success refine Nx.m_quiet_do rfl rfl rfl rfl rfl rfl rfl ?_ ?_); (fail_if_success refine Nx.m_loud_do rfl rfl rfl rfl rfl ?_); first | refine Nx.m_dec_t rfl rfl rfl rfl (by first | assumption | omega) ?_ | refine Nx.m_dec_f rfl rfl rfl rfl (by first | assumption | omega) ?_ | refine Nx.m_split rfl rfl rfl rfl (fun hc => ?_) (fun hc => ?_) | refine Nx.m_splitb rfl rfl rfl rfl (fun hc => ?_) (fun hc => ?_)))
      | ((fail_if_success (with_reducible refine Nx.is_at ?_)); (fail_if_success (with_reducible refine Nx.is_wp ?_)); (fail_if_success (with_reducible refine Nx.is_mix ?_)); first | refine Nx.ex ?_)
    exact Nx.again (r + 1) ⟨hrl, hstep (Ind.dup hmem)⟩ (by omega) ⟨rfl, rfl, rfl, rfl, trivial⟩ (by (exact Ent.auto))
  have hsl : (R ++ [r]).length = R.length + 1 := by simp
  have hltm : ∀ x ∈ R ++ [r], x < (matL v).length := fun x hx => by
    rcases List.mem_append.1 hx with h | h
    · exact hInd.lt x h
    · simp at h; omega
  have hltv : ∀ x ∈ R ++ [r], x < v.length := fun x hx => by have := hltm x hx; omega
  have hnd := nodup_snoc hInd.nd hmem
  have hdet := fun (A3 : Option Addr) (c3 : Nat) (o3 : List Row) (ho3 : matL o3 = sqL (matL v) (R ++ [r]) (-1) 0) (I' : PH) (h : Mat I' A3 c3 o3) =>
    det_spec A3 c3 o3 I' h (by rw [ho3]; exact sq_small hf hltm (by omega) (by omega)) (sq_rows hf hltm (by omega) ho3).2 (by rw [(sq_rows hf hltm (by omega) ho3).1]; omega)
  have hbd := minr_bd hf hnd hltm List.nodup_range (cs := List.range (R ++ [r]).length) fun x hx => by have := List.mem_range.1 hx; omega
  have hdq := det_sq (matL v) (R ++ [r])
  have hS := sign_spec (minr (entM (matL v)) (R ++ [r]) (List.range (R ++ [r]).length)) (det_inw hbd).1
  repeat' first
    | ((with_reducible refine Nx.is_wp ?_); first | refine Nx.wo ?_ | refine Nx.p_dec rfl rfl (fun hc => ?_) (fun hc => ?_) | refine Nx.p_bool rfl rfl (fun hc => ?_) (fun hc => ?_))
    | ((first | refine Nx.at_op rfl rfl ?_ | refine Nx.m_loud rfl rfl rfl ?_ | refine Nx.at_do rfl rfl rfl rfl ?_ | refine Nx.m_loud_do rfl rfl rfl rfl rfl ?_); first | refine Nx.opr rfl rfl ?_ | (refine Nx.call_lendR 0 rfl rfl rfl (by kernel_rfl) rfl rfl (fun m1 I' hI hm1 h1 => Contains_nats A1 c1 R r I' (Vec.sliceOf hm1 h1)) ?_; rintro _ _ ⟨rfl, rfl⟩; rw [decide_eq_false hmem]) | (refine Nx.call_lendR 0 rfl rfl rfl (by kernel_rfl) rfl rfl (fun m1 I' hI hm1 h1 => Clone_nats A1 c1 R I' (Vec.sliceOf hm1 h1) (by omega)) ?_; rintro _ _ ⟨A3, c3, rfl, rfl⟩) | refine Nx.so ?_ | refine Nx.sb (fun bx => ?_) | refine Nx.sa (fun A2 c2 => ?_))
    | ((with_reducible refine Nx.is_at ?_); first | refine Nx.a ?_ | ((fail_if_success refine Nx.at_do rfl rfl rfl rfl ?_); first | refine Nx.at_dec_t rfl rfl rfl rfl (by first | assumption | omega) ?_ | refine Nx.at_dec_f rfl rfl rfl rfl (by first | assumption | omega) ?_ | refine Nx.at_split rfl rfl rfl rfl (fun hc => ?_) (fun hc => ?_) | refine Nx.at_splitb rfl rfl rfl rfl (fun hc => ?_) (fun hc => ?_)))
    | ((with_reducible refine Nx.is_mix ?_); first | refine Nx.m ?_ | ((fail_if_success refine Nx.m_quiet_do rfl rfl rfl rfl rfl rfl rfl ?_ ?_); (fail_if_success refine Nx.m_loud_do rfl rfl rfl rfl rfl ?_); first | refine Nx.m_dec_t rfl rfl rfl rfl (by first | assumption | omega) ?_ | refine Nx.m_dec_f rfl rfl rfl rfl (by first | assumption | omega) ?_ | refine Nx.m_split rfl rfl rfl rfl (fun hc => ?_) (fun hc => ?_) | refine Nx.m_splitb rfl rfl rfl rfl (fun hc => ?_) (fun hc => ?_)))
    | ((fail_if_success (with_reducible refine Nx.is_at ?_)); (fail_if_success (with_reducible refine Nx.is_wp ?_)); (fail_if_success (with_reducible refine Nx.is_mix ?_)); first | refine Nx.ex ?_)
  refine Nx.weak (e' := [(0, .slice A v.length c), (3, .slice A1 R.length c1), (5, .slice A2 (R ++ [r]).length c2), (12, .int .i64 v.length), (13, .int .i64 (r : Int)), (24, .slice A v.length c), (25, .slice A2 (R ++ [r]).length c2)]) (R' := [natsR A2 c2 (R ++ [r]), natsR A1 c1 R, F]) ⟨rfl, rfl, by rw [hsl]; rfl, rfl, rfl, rfl, by rw [hsl]; rfl, trivial⟩ (by unfold natsR; rw [hsl, List.map_append]; (exact Ent.auto)) ?_
  repeat' first
    | ((with_reducible refine Nx.is_wp ?_); first | refine Nx.wo ?_ | refine Nx.p_dec rfl rfl (fun hc => ?_) (fun hc => ?_) | refine Nx.p_bool rfl rfl (fun hc => ?_) (fun hc => ?_))
    | ((first | refine Nx.at_op rfl rfl ?_ | refine Nx.m_loud rfl rfl rfl ?_ | refine Nx.at_do rfl rfl rfl rfl ?_ | refine Nx.m_loud_do rfl rfl rfl rfl rfl ?_); first | refine Nx.opr rfl rfl ?_ | (refine Nx.call_lendR 0 rfl rfl rfl (by kernel_rfl) rfl rfl (fun m1 I' hI hm1 h1 => square_spec A c v I' (hm.mono hI) hsq (by omega) A2 c2 (R ++ [r]) (Vec.sliceOf hm1 h1) hltv (by omega) (-1) (by omega) 0 (by omega)) ?_; rintro _ _ ⟨A4, c4, o4, rfl, ho4, rfl⟩) | (refine Nx.call_lendR2 1 1 rfl rfl rfl (by kernel_rfl) rfl rfl rfl (fun m1 m2 I' hI hm1 h1 hm2 h2 => hdet _ _ _ ho4 I' (mat_given hm1 h1 hm2 h2)) ?_; rintro _ _ ⟨rfl, rfl⟩; rw [ho4, hdq]) | refine Nx.callv rfl rfl rfl (by kernel_rfl) rfl (hS I) ?_ | refine Nx.so ?_ | refine Nx.sb (fun bx => ?_) | refine Nx.sa (fun A2 c2 => ?_))
    | ((with_reducible refine Nx.is_at ?_); first | refine Nx.a ?_ | ((fail_if_success refine Nx.at_do rfl rfl rfl rfl ?_); first | refine Nx.at_dec_t rfl rfl rfl rfl (by first | assumption | omega) ?_ | refine Nx.at_dec_f rfl rfl rfl rfl (by first | assumption | omega) ?_ | refine Nx.at_split rfl rfl rfl rfl (fun hc => ?_) (fun hc => ?_) | refine Nx.at_splitb rfl rfl rfl rfl (fun hc => ?_) (fun hc => ?_)))
    | ((with_reducible refine Nx.is_mix ?_); first | refine Nx.m ?_ | ((fail_if_success refine Nx.m_quiet_do rfl rfl rfl rfl rfl rfl rfl ?_ ?_); (fail_if_success refine Nx.m_loud_do rfl rfl rfl rfl rfl ?_); first | refine Nx.m_dec_t rfl rfl rfl rfl (by first | assumption | omega) ?_ | refine Nx.m_dec_f rfl rfl rfl rfl (by first | assumption | omega) ?_ | refine Nx.m_split rfl rfl rfl rfl (fun hc => ?_) (fun hc => ?_) | refine Nx.m_splitb rfl rfl rfl rfl (fun hc => ?_) (fun hc => ?_)))
    | ((fail_if_success (with_reducible refine Nx.is_at ?_)); (fail_if_success (with_reducible refine Nx.is_wp ?_)); (fail_if_success (with_reducible refine Nx.is_mix ?_)); first | refine Nx.ex ?_)
  · have hz : minr (entM (matL v)) (R ++ [r]) (List.range (R.length + 1)) ≠ 0 := fun h => hc (by rw [hsl, h]; rfl)
    exact Nx.again (A2, c2, R ++ [r]) (hInd.snoc (by omega) hmem hz) (by dsimp only; omega) ⟨rfl, rfl, trivial⟩ (by (exact Ent.auto))
  · have hz : minr (entM (matL v)) (R ++ [r]) (List.range (R.length + 1)) = 0 := by
      rw [hsl] at hc
      exact Int.sign_eq_zero_iff_zero.1 (Decidable.not_not.1 hc)
    exact Nx.again (r + 1) ⟨hrl, hstep hz⟩ (by omega) ⟨rfl, rfl, rfl, rfl, trivial⟩ (by (exact Ent.auto))
end Go.Proofs.YtpdgnjoideppjaaDoor
/-
  The proof engine, part AG: an element of an owned list of structs is stored whole.
-/
namespace Go.Eng
section
variable {P : Program} {W : World} {I : PH} {R : List Res} {t : TypeId} {A : Option Addr} {n c : Nat}
theorem setsAt_eq : ∀ (vs cs : List Value) (i : Nat), i + vs.length ≤ cs.length → setsAt cs i vs = some (cs.take i ++ vs ++ cs.drop (i + vs.length))
  | [], cs, i, _ => by simp [setsAt]
  | v :: vs, cs, i, h => by
    simp only [List.length_cons] at h
    have hset : ∀ (cs : List Value) (i : Nat), i < cs.length → setAt cs i v = some (cs.set i v) := by
      intro cs
      induction cs with
      | nil => intro i hi; simp at hi
      | cons c r ih =>
        intro i hi
        cases i with
        | zero => rfl
        | succ i =>
          simp only [setAt]
          rw [ih i (by simpa using hi)]
          rfl
    unfold setsAt
    rw [hset cs i (by omega)]
    show setsAt (cs.set i v) (i + 1) vs = _
    rw [setsAt_eq vs (cs.set i v) (i + 1) (by rw [List.length_set]; omega)]
    congr 1
    rw [List.drop_set_of_lt (by omega), List.length_cons, show i + 1 + vs.length = i + (vs.length + 1) by omega]
    rw [List.take_succ_eq_append_getElem (by rw [List.length_set]; omega), List.getElem_set_self, List.take_set_of_le (Nat.le_refl _)]
    simp
theorem patch_take {α : Type} {L vs : List α} {i N : Nat} (h : i + vs.length ≤ N) (hN : N ≤ L.length) : (L.take i ++ vs ++ L.drop (i + vs.length)).take N = (L.take N).take i ++ vs ++ (L.take N).drop (i + vs.length) := by
  have hl : (L.take i ++ vs).length = i + vs.length := by rw [List.length_append, List.length_take]; omega
  rw [List.take_append, List.take_of_length_le (by omega), hl, List.take_take, Nat.min_eq_left (by omega), List.drop_take]
/-- Several cells of an owned list are stored. -/
theorem Wr.vecNs {sz i : Nat} {xs vs : List Value} (hi : i + vs.length ≤ n * sz) (h0 : 0 < vs.length) (h1 : ∀ v ∈ vs, v.oneCell' = true) : Wr P W I (Vec t sz A n c xs :: R) ((ad A).add i) vs (Vec t sz A n c (xs.take i ++ vs ++ xs.drop (i + vs.length)) :: R) := by
  intro w hw
  obtain ⟨⟨m, ⟨m1, m2, hd, rfl, hv, h2⟩, hsat⟩, hst⟩ := id hw
  have hxl := hv.1
  rcases hv.2 with ⟨_, hn0, _⟩ | ⟨b, cur, rfl, hb, hnc, hcm, hsz, htake⟩
  · rw [hn0, Nat.zero_mul] at hi; omega
  have hb0 : w.heap[b]? = some (.cells cur t (0, 0)) := hsat.own _ _ (PH.le_or_left _ _ _ _ hb)
  have hle : n * sz ≤ c * sz := Nat.mul_le_mul_right _ hnc
  have hcl : cur.toList.length = c * sz := by rw [Array.length_toList]; exact hsz
  have hs1 := setsAt_eq vs cur.toList i (by omega)
  obtain ⟨w', hr, hb', hk', hst'⟩ := storeCells_from (P := P) vs cur.toList _ i 0 w (by simpa using hb0) hs1 h1
  refine ⟨w', ?_, ?_⟩
  · rw [ad_some, Addr.add_lit, Nat.zero_add]
    exact hr
  · refine hw.upd (o := .cells (cur.toList.take i ++ vs ++ cur.toList.drop (i + vs.length)).toArray t (0, 0)) (b := b) (fun mm hm => ?_) hb' (fun j hne o' ho => (hk' j hne).trans ho) hst'
    rcases hm.2 with ⟨he, _, _⟩ | ⟨b', cur', he, hb1, _, _, _, _⟩
    · cases he
    cases he
    refine ⟨by rw [hb1]; rfl, ?_, .inr ⟨b, (cur.toList.take i ++ vs ++ cur.toList.drop (i + vs.length)).toArray, rfl, by simp, hnc, hcm, ?_, ?_⟩⟩
    · simp only [List.length_append, List.length_take, List.length_drop]; omega
    · simp only [List.size_toArray, List.length_append, List.length_take, List.length_drop]; omega
    · rw [List.toList_toArray, ← htake]
      exact patch_take hi (by omega)
/-- An element of a list of structs is put anew. -/
theorem flat_put {α : Type} [Inhabited α] {f : α → List Value} {sz : Nat} (hf : ∀ x, (f x).length = sz) {l : List α} {k : Nat} (x' : α) (hk : k < l.length) : (l.flatMap f).take (k * sz) ++ f x' ++ (l.flatMap f).drop (k * sz + (f x').length) = (l.set k x').flatMap f := by
  have e : l = l.take k ++ l[k] :: l.drop (k + 1) := by rw [← List.drop_eq_getElem_cons hk, List.take_append_drop]
  have hfe : l.flatMap f = (l.take k).flatMap f ++ (f l[k] ++ (l.drop (k + 1)).flatMap f) := by
    have := congrArg (List.flatMap f) e
    rw [List.flatMap_append, List.flatMap_cons] at this
    exact this
  have hl0 : ((l.take k).flatMap f).length = k * sz := by rw [flat_len hf, List.length_take, Nat.min_eq_left (by omega)]
  have h1 : (l.flatMap f).take (k * sz) = (l.take k).flatMap f := by rw [hfe, ← hl0, List.take_left]
  have h2 : (l.flatMap f).drop (k * sz + sz) = (l.drop (k + 1)).flatMap f := by
    have hl : ((l.take k).flatMap f ++ f l[k]).length = k * sz + sz := by rw [List.length_append, hl0, hf]
    rw [hfe, ← List.append_assoc, ← hl, List.drop_left]
  rw [hf, h1, h2, List.set_eq_take_append_cons_drop, if_pos hk, List.flatMap_append, List.flatMap_cons, List.append_assoc]
end
section
variable {C : Cx} {e : Env} {I : PH} {R : List Res} {K : Act → World → Prop} {Q : Exit → Act → World → Prop} {n c : Nat} {t ty el : TypeId} {pos : String} {after : Array Edge} {g : Option (Nat × Bool)} {x y : Operand} {A : Option Addr}
/-- An element of an owned list of structs is stored whole, resource number k. -/
theorem Nx.store_elt {α : Type} [Inhabited α] (k : Nat) (f : α → List Value) {sz i : Nat} {l : List α} {x' : α} {vy : Value} (hx : evo e x = some (.pointer (some ((ad A).add (i * sz))))) (hy : evo e y = some vy) (hc : cellsL vy = f x') (hn : cellsIn C.P t = some sz) (hk : nthL R k = some (Vec el sz A n c (l.flatMap f)))
    (hf : ∀ x, (f x).length = sz) (h0 : 0 < sz) (h1 : ∀ v ∈ f x', v.oneCell' = true) (hi : i < l.length) (hn2 : l.length = n)
    (h : Nx C e I (Vec el sz A n c ((l.set i x').flatMap f) :: R.eraseIdx k) K) : Nx C e I R (opK C.P ⟨none, .store t x y, ty, pos, after, g⟩ K Q) := by
  have hl := hf x'
  have hle : (i + 1) * sz ≤ n * sz := Nat.mul_le_mul_right _ (by omega)
  rw [Nat.succ_mul] at hle
  have hp := flat_put hf x' hi
  rw [← hp] at h
  exact Nx.ent (Ent.pull k R _ (nthL_eq.symm.trans hk)) (Nx.store hx hy ((cellsL_eq _).trans hc) hn (by rw [hl]; exact Nat.beq_refl _) (Wr.vecNs (by rw [hl]; exact hle) (by omega) h1) h)
theorem toList_made (z : Array Value) : ∀ m : Nat, (madeCells z (m * z.size)).toList = (List.replicate m z.toList).flatten
  | 0 => by rw [Nat.zero_mul]; simp [madeCells]
  | m + 1 => by
    have ih := toList_made z m
    unfold madeCells at ih ⊢
    rw [Array.toList_map, Array.toList_range] at ih ⊢
    rw [Nat.succ_mul, List.range_add, List.map_append, ih, List.replicate_succ', List.flatten_append, List.map_map]
    congr 1
    rw [List.flatten_cons, List.flatten_nil, List.append_nil]
    refine List.ext_getElem (by simp) fun i h1 h2 => ?_
    have hi : i < z.size := by simpa using h1
    rw [List.getElem_map, List.getElem_range]
    show z[(m * z.size + i) % z.size]! = _
    rw [Nat.mul_comm, Nat.mul_add_mod, Nat.mod_eq_of_lt hi, getElem!_pos z i hi]
    rfl
/-- make([]T, n), T of several cells. -/
theorem Nx.makeStructs {d : Tmp} {α : Type} (f : α → List Value) (x0 : α) {kl kc : IntKind} {by_ m sz : Nat} {z0 : Value} {i : TypeInfo} (hx : evo e x = some (.int kl (m : Int))) (hy : evo e y = some (.int kc (m : Int))) (ht : C.P.underlying t = some (.slice el))
    (hi : C.P.info? el = some i) (hz : i.zero = some z0) (hs : i.size = sz) (hb : i.bytes = by_) (hz1 : z0.cells.toList = f x0) (hl : (f x0).length = sz) (hlt : Nat.blt d C.n = true) (hbytes : by_ * m ≤ 281474976710656) (h63 : m ≤ maxLen)
    (h : ∀ b, Nx C ((d, .slice (some ⟨b, 0, none⟩) m m) :: e) I (Vec el sz (some ⟨b, 0, none⟩) m m ((List.replicate m x0).flatMap f) :: R) K) : Nx C e I R (opK C.P ⟨some d, .makeSlice t x y, ty, pos, after, g⟩ K Q) := by
  refine Nx.op_new (v := fun b => .slice (some ⟨b, 0, none⟩) m m) (ob := .cells (madeCells z0.cells (m * sz)) el) rfl hlt (fun a w ha hw => ?_) (fun b => ?_)
  · simp only [execOp, ha.eval hx, ha.eval hy]
    refine run_v ?_
    have hbb : (i.bytes : Int) * (m : Int) ≤ 281474976710656 := by
      have h : ((i.bytes * m : Nat) : Int) ≤ 281474976710656 := by rw [hb]; omega
      rwa [Int.natCast_mul] at h
    unfold maxLen at h63
    have hr := run_make (P := C.P) w t el i z0 ht hi hz kl kc m m (by omega) (by omega) hbb (by omega)
    simp only [Int.toNat_natCast, hs] at hr
    exact hr
  · have hsz : z0.cells.size = sz := by rw [← hl, ← hz1, Array.length_toList]
    have hfl : ((List.replicate m x0).flatMap f).length = m * sz := by
      clear h hbytes h63 hx hy
      induction m with
      | zero => simp
      | succ m ih => rw [List.replicate_succ, List.flatMap_cons, List.length_append, ih, hl, Nat.succ_mul]; omega
    have hrep : (List.replicate m z0.cells.toList).flatten = (List.replicate m x0).flatMap f := by
      rw [hz1, List.flatMap_def, List.map_replicate]
    refine (h b).ent (Ent.head fun mm hm => ⟨hfl, .inr ⟨b, _, rfl, hm, Nat.le_refl _, h63, by rw [size_madeCells], ?_⟩⟩)
    have := toList_made z0.cells m
    rw [hsz] at this
    rw [this, hrep, ← hfl, List.take_length]
end
end Go.Eng
/- Contracts of functions of the given program, and lemmas about plain lists and numbers: what the laws of this seat lean on. -/
namespace Go.Proofs.YtpdgnjoideppjaaDoor
open Go.Eng Go.Det
attribute [local irreducible] opK wpList Code.wp Exit.then Exit.inBlock fnPost bodyPost Nx Calls Oper.wp Rd Rds Wr Ent Stars Blk Again Vec FnSpec wpMix QRun Stop Upto wpAt
/-! The list that the rows turn into 0 -/
theorem range_set {α : Type} (f : Nat → α) {n j : Nat} (y : α) : ((List.range n).map f).set j y = (List.range n).map fun i => if i = j then y else f i := by
  refine List.ext_getElem (by simp) fun i h1 h2 => ?_
  rw [List.getElem_set, List.getElem_map, List.getElem_map, List.getElem_range]
  by_cases h : j = i
  · rw [if_pos h, if_pos h.symm]
  · rw [if_neg h, if_neg (Ne.symm h)]
def fr1 (x : Rat) : Int × Int := (redN x, redD x)
/-- After j of the first k numbers. -/
def kerS (x : Nat → Rat) (k j n : Nat) : List (Int × Int) := (List.range n).map fun i => if i < j then fr1 (x i) else if i = k then (1, 1) else (0, 1)
def kerL (x : Nat → Rat) (k n : Nat) : List (Int × Int) := if firstE (fun j => redE (x j)) k = 0 then kerS x k k n else []
def onesS (j n : Nat) : List (Int × Int) := (List.range n).map fun i => if i < j then (0, 1) else (0, 0)
theorem onesS_len (j n : Nat) : (onesS j n).length = n := by unfold onesS; simp
theorem kerS_len (x : Nat → Rat) (k j n : Nat) : (kerS x k j n).length = n := by unfold kerS; simp
theorem onesS_set {j n : Nat} : (onesS j n).set j (0, 1) = onesS (j + 1) n := by
  unfold onesS
  rw [range_set]
  refine List.map_congr_left fun i hi => ?_
  by_cases h : i = j
  · rw [if_pos h, if_pos (by omega)]
  · rw [if_neg h]
    by_cases h2 : i < j
    · rw [if_pos h2, if_pos (by omega)]
    · rw [if_neg h2, if_neg (by omega)]
theorem onesS_zero {n : Nat} : onesS 0 n = List.replicate n (0, 0) := by
  unfold onesS
  rw [List.eq_replicate_iff]
  refine ⟨by simp, fun b hb => ?_⟩
  obtain ⟨i, _, rfl⟩ := List.mem_map.1 hb
  exact if_neg (Nat.not_lt_zero _)
theorem onesS_at {j n : Nat} (h : j < n) : (onesS n n).getD j default = (0, 1) := by
  unfold onesS
  rw [List.getD_eq_getElem?_getD, List.getElem?_map, List.getElem?_range h]
  show (if j < n then _ else _) = _
  rw [if_pos h]
theorem onesS_one {x : Nat → Rat} {k n : Nat} : (onesS n n).set k (1, 1) = kerS x k 0 n := by
  unfold onesS kerS
  rw [range_set]
  refine List.map_congr_left fun i hi => ?_
  rw [if_pos (List.mem_range.1 hi), if_neg (Nat.not_lt_zero _)]
theorem kerS_set {x : Nat → Rat} {k j n : Nat} : (kerS x k j n).set j (fr1 (x j)) = kerS x k (j + 1) n := by
  unfold kerS
  rw [range_set]
  refine List.map_congr_left fun i hi => ?_
  by_cases h : i = j
  · rw [if_pos h, if_pos (by omega), h]
  · rw [if_neg h]
    by_cases h2 : i < j
    · rw [if_pos h2, if_pos (by omega)]
    · rw [if_neg h2, if_neg (show ¬ i < j + 1 by omega)]
theorem Ker.list {m : List (List Int)} {k l n : Nat} {x y : Nat → Rat} (h : Ker m k x) (h2 : Ker m l y) : kerL x k n = kerL y l n := by
  obtain ⟨rfl, h3⟩ := h.same h2
  have e1 : firstE (fun j => redE (x j)) k = firstE (fun j => redE (y j)) k := by
    have : ∀ n, n ≤ k → firstE (fun j => redE (x j)) n = firstE (fun j => redE (y j)) n := fun n => by
      induction n with
      | zero => intro _; rfl
      | succ n ih => intro hn; unfold firstE; rw [ih (by omega), h3 n (by omega)]
    exact this k (Nat.le_refl _)
  unfold kerL
  rw [e1]
  split
  · unfold kerS
    refine List.map_congr_left fun i hi => ?_
    by_cases h4 : i < k
    · rw [if_pos h4, if_pos h4, h3 i h4]
    · rw [if_neg h4, if_neg h4]
  · rfl
theorem one_cells (x : Int × Int) : ∀ u ∈ frC x, u.oneCell' = true := fun u hu => by
  rcases List.mem_cons.1 hu with rfl | hu
  · rfl
  · rw [List.mem_singleton.1 hu]; rfl
/-- What Kernel leaves. -/
def kerPost (m : List (List Int)) (u : Value) (R' : List Res) : Prop := ∃ (A' : Option Addr) (c' : Nat) (l : List (Int × Int)), u = .slice A' l.length c' ∧ (zeroB m = false → l = []) ∧ (zeroB m = true → ∃ k x, Ker m k x ∧ l = kerL x k m.length) ∧ R' = [fracsR A' c' l]
end Go.Proofs.YtpdgnjoideppjaaDoor
