/-
  The proof engine, part AB: what only reads, in its place; array literals; a store into an element of an owned list of structs.
-/
import Derived.Deep.Slices
import Derived.ChangeSlices
import Derived.OpenShut
import Derived.Lib.SmallJoins
import Derived.Test.YtpmlehplbobjmaaDoorRows
import Derived.Test.YtpmlehplbobjmaaDoorChecked
import Derived.WalkKit
import Derived.ProofKit
import Derived.LaidHandle
import Derived.LaidLaws
import Derived.Lib.LaidTab
import Derived.Stop.LaidErr
import Derived.Lib.ItoaMem
import Derived.Lib.TrailingZeros
import Derived.Test.YtpmlehplbobjmaaDoorCa5
namespace Go.Eng
section
variable {C : Cx} {e : Env} {I : PH} {R : List Res} {K : Act → World → Prop} {Q : Exit → Act → World → Prop} {W : World} {d n c : Nat} {v : Value} {o : Oper} {P : Program} {t ty el : TypeId} {pos : String} {after : Array Edge} {g : Option (Nat × Bool)} {x y : Operand} {A : Option Addr}
/-- A store into a cell of an owned list. -/
theorem Wr.vecN {sz i : Nat} {xs : List Value} (hi : i < n * sz) (h1 : v.oneCell' = true) : Wr P W I (Vec t sz A n c xs :: R) ((ad A).add i) [v] (Vec t sz A n c (xs.set i v) :: R) := by
  intro w hw
  obtain ⟨⟨m, ⟨m1, m2, hd, rfl, hv, h2⟩, hsat⟩, hst⟩ := id hw
  rcases hv.2 with ⟨_, h0, _⟩ | ⟨b, cur, rfl, hb, hnc, hcm, hsz, htake⟩
  · rw [h0, Nat.zero_mul] at hi; omega
  have hb0 : w.heap[b]? = some (.cells cur t (0, 0)) := hsat.own _ _ (PH.le_or_left _ _ _ _ hb)
  have hle : n * sz ≤ c * sz := Nat.mul_le_mul_right _ hnc
  have hrun := run_store1 (P := P) hb0 (i := i) (by omega) h1
  refine ⟨w.setCell ⟨b, i, none⟩ v, ?_, hw.upd (o := .cells (cur.setIfInBounds i v) t (0, 0)) (b := b) (fun mm hm => ?_) ?_ (fun k hne o' ho => (heap_setCell_other w ⟨b, i, none⟩ k v hne).trans ho) ⟨rfl, rfl, rfl, by simp, Nat.le_refl _⟩⟩
  · rw [ad_some, Addr.add_lit, Nat.zero_add]
    unfold storeCells
    rw [Sem.run_bind, Addr.add_zero', hrun]
    rfl
  · rcases hm.2 with ⟨he, _, _⟩ | ⟨b', cur', he, hb', h1', h2', h3', h4'⟩
    · cases he
    · cases he
      refine ⟨by rw [hb']; rfl, by simpa using hm.1, .inr ⟨b, cur.setIfInBounds i v, rfl, by simp, h1', h2', by simpa using hsz, ?_⟩⟩
      rw [← htake]
      simp only [Array.toList_setIfInBounds]
      rw [List.take_set]
  · exact heap_setCell_same w b i cur t v hb0
end
end Go.Eng
/-
  The proof engine, part AC: bundles: one of their resources taken out and put back; lists of structs, one field set.
-/
namespace Go.Eng
theorem Ent.stars {B R : List Res} : Ent (B ++ R) (Stars B :: R) := by
  intro m hm
  obtain ⟨m1, m2, hd, rfl, h1, h2⟩ := Stars.append hm
  exact ⟨_, PH.le_refl _, m1, m2, hd, rfl, h1, h2⟩
set_option maxHeartbeats 8000000 in
theorem Ent.push : ∀ (k : Nat) (R : List Res) (r : Res), R[k]? = some r → Ent (r :: R.eraseIdx k) R
  | 0, r' :: R, r, h => by simp at h; subst h; exact Ent.refl _
  | k + 1, r' :: R, r, h => (Ent.swap _ _ _).trans (Ent.pick 0 rfl (Ent.push k R r (by simpa using h)))
  | k, [], r, h => by simp at h
section
variable {C : Cx} {e : Env} {I : PH} {R : List Res} {K : Act → World → Prop} {Q : Exit → Act → World → Prop} {S : World → Prop} {d : Nat} {dst : Option Tmp} {ty t u : TypeId} {pos : String} {after : Array Edge} {g : Option (Nat × Bool)} {x y : Operand} {a b : List UInt8}
end
section
variable {α : Type} [Inhabited α] {f : α → List Value} {sz : Nat}
/-- An element of an owned list of structs is read. -/
theorem Rds.vecN {W : World} {I : PH} {R : List Res} {t : TypeId} {A : Option Addr} {n c : Nat} {l : List α} (k : Nat) {i : Nat} (hf : ∀ x, (f x).length = sz) (hk : nthL R k = some (Vec t sz A n c (l.flatMap f))) (hi : i < l.length) : Rds W I R ((ad A).add (i * sz)) (f (l.getD i default)) := by
  intro j u hj
  have hfl := flatMap_at (f := f) (sz := sz) (fun x _ => hf x) hi
  have hjl : j < sz := by have := (List.getElem?_eq_some_iff.1 hj).1; rw [hf] at this; exact this
  rw [← hfl, List.getElem?_take, if_pos hjl, List.getElem?_drop] at hj
  rw [Addr.add_add]
  exact Rd.vecAt k hk (by rw [nthL_eq]; exact hj)
end
end Go.Eng
/- Contracts of functions of the given program, and lemmas about plain lists and numbers: what the laws of this seat lean on. -/
namespace Go.Proofs.YtpmlehplbobjmaaDoor
open Go.Eng
attribute [local irreducible] opK wpList Code.wp Exit.then Exit.inBlock fnPost bodyPost Nx Calls Oper.wp Rd Rds Wr Ent Stars Blk Again Vec FnSpec wpMix QRun Stop Upto wpAt
/-! The reference's margins -/
theorem margL_len (set i : Nat) (g : List Int) : (margL set i g).length = g.length := by
  unfold margL
  split
  · exact oneL_len g
  · rfl
def mixM (set i : Nat) (g : List Int) (k : Nat) : List Int := (margL set i g).take k ++ g.drop k
theorem mixM_zero (set i : Nat) (g : List Int) : mixM set i g 0 = g := rfl
theorem mixM_full (set i : Nat) (g : List Int) : mixM set i g g.length = margL set i g := by
  unfold mixM
  rw [List.drop_length, List.append_nil, ← margL_len set i g, List.take_length]
theorem mixM_len {set i : Nat} {g : List Int} {k : Nat} (hk : k ≤ g.length) : (mixM set i g k).length = g.length := mix_len (margL_len set i g) hk
theorem mixM_at {set i : Nat} {g : List Int} {k : Nat} (hk : k < g.length) : (mixM set i g k).getD k default = g.getD k default := mix_at (margL_len set i g) hk
theorem set_same {l : List Int} {k : Nat} {z : Int} (hk : k < l.length) (hz : l.getD k default = z) : l.set k z = l := by
  subst hz
  rw [List.getD_eq_getElem?_getD, List.getElem?_eq_getElem hk]
  simp
theorem mixM_on {set i q : Nat} {g : List Int} {k : Nat} (hq : q = set / 2 ^ i) (h1 : q % 2 = 1) (hk : k < g.length) (h0 : 0 < g.getD k default) : mixM set i g (k + 1) = (mixM set i g k).set k 0 := by
  have h := mix_set (margL_len set i g) hk
  have e : (margL set i g).getD k default = 0 := by
    unfold margL
    rw [if_pos (by rw [← hq]; exact h1), oneL_at]
    omega
  rw [e] at h
  exact h.symm
theorem mixM_off {set i q : Nat} {g : List Int} {k : Nat} (hq : q = set / 2 ^ i) (hk : k < g.length) (h0 : ¬ (q % 2 = 1 ∧ 0 < g.getD k default)) : mixM set i g (k + 1) = mixM set i g k := by
  have h := mix_set (margL_len set i g) hk
  have e : (margL set i g).getD k default = g.getD k default := by
    unfold margL
    rw [← hq]
    split
    · rw [oneL_at]; omega
    · rfl
  replace h : (mixM set i g k).set k ((margL set i g).getD k default) = mixM set i g (k + 1) := h
  rw [e, set_same (by have := mixM_len (set := set) (i := i) (Nat.le_of_lt hk); omega) (mixM_at hk)] at h
  exact h.symm
theorem map_flat1 {α β : Type} (f : α → β) : ∀ l : List α, l.map f = l.flatMap fun x => [f x]
  | [] => rfl
  | x :: l => by rw [List.map_cons, List.flatMap_cons, map_flat1 f l]; rfl
theorem Rds.vecOne {α : Type} [Inhabited α] {f : α → Value} {W : World} {I : PH} {R : List Res} {t : TypeId} {A : Option Addr} {n c : Nat} {l : List α} {u : Value} (k : Nat) {i : Nat} (hk : nthL R k = some (Vec t 1 A n c (l.map f))) (hi : i < l.length) (hu : f (l.getD i default) = u) : Rds W I R ((ad A).add (i * 1)) [u] := by
  have h := Rds.vecN (W := W) (I := I) (f := fun x => [f x]) (sz := 1) (l := l) k (fun _ => rfl) (by rw [hk, map_flat1]) hi
  rw [hu] at h
  exact h
def isM (V M : List (List Int)) (L : List (List (List Int))) (j : Nat) : Bool := decide (M = V ∨ M ∈ L.take j)
theorem isM_zero (V M : List (List Int)) (L : List (List (List Int))) : isM V M L 0 = decide (M = V) := by
  unfold isM
  simp
theorem isM_succ {V M X : List (List Int)} {L : List (List (List Int))} {j : Nat} (hj : j < L.length) (hX : L.getD j default = X) : isM V M L (j + 1) = (isM V M L j || decide (M = X)) := by
  unfold isM
  rw [List.getD_eq_getElem?_getD, List.getElem?_eq_getElem hj] at hX
  have hX : L[j] = X := hX
  rw [List.take_succ_eq_append_getElem hj, hX, ← Bool.decide_or, decide_eq_decide, List.mem_append, List.mem_singleton, or_assoc]
theorem isM_full (V M : List (List Int)) (L : List (List (List Int))) : isM V M L L.length = decide (M = V ∨ M ∈ L) := by unfold isM; rw [List.take_length]
theorem lstsM_at {ms : List VRow} {j : Nat} (hj : j < ms.length) {x : VRow} (hx : ms.getD j default = x) : (ms.map fun m : VRow => lsts m.2.2).getD j default = lsts x.2.2 := by
  rw [List.getD_eq_getElem?_getD, List.getElem?_map, List.getElem?_eq_getElem hj, ← hx, List.getD_eq_getElem?_getD, List.getElem?_eq_getElem hj]; rfl
set_option maxRecDepth 10000 in
set_option maxHeartbeats 4000000 in
theorem RMargins_spec (A B : Option Addr) (c cv : Nat) (l : List Int) (v : List Row) (I : PH) (hl : Ints I A c l) (hs : Sizes l) (hv : RowsOf I B cv v) (hw : Viewed l v) :
    FnSpec Tryd.prog 43 [.agg #[.slice A l.length c], .agg #[.slice B v.length cv]] I []
      (fun u R' => ∃ (A' : Option Addr) (c' : Nat) (ms : List VRow), u = .tuple #[.slice A' ms.length c', .int .i64 0] ∧ ms.map (fun m : VRow => lsts m.2.2) = margs (lsts v) (2 ^ l.length - 1) ∧ R' = vsR A' c' ms) := by
  have hlen := hl.len
  have hd := hs.dims
  have hvl := hw.len
  have hC := RViewA_spec A B c cv l v I hl hv
  rw [viE_ok hs hw] at hC
  obtain ⟨P, hPe, hP⟩ : ∃ P : Nat, P = 2 ^ v.length ∧ 2 ≤ P ∧ P ≤ 16 := by
    have : v.length = 1 ∨ v.length = 2 ∨ v.length = 3 ∨ v.length = 4 := by omega
    refine ⟨_, rfl, ?_⟩
    rcases this with h | h | h | h <;> rw [h] <;> decide
  have hBv := hv.outer.isSome (by omega)
  refine FnSpec.enterP Tryd.func43 rfl Tryd.ntmps43 rfl fun w F => ?_
  repeat' first
    | ((with_reducible refine Nx.is_wp ?_); first | refine Nx.wo ?_ | refine Nx.zp (fun hc => ?_) (fun hc => ?_))
    | (refine Nx.zo ?_; first | refine Nx.opr rfl rfl ?_ | refine Nx.callv rfl rfl rfl (by kernel_rfl) rfl hC ?_ | refine Nx.so ?_ | refine Nx.sb (fun bx => ?_) | refine Nx.sa (fun A2 c2 => ?_))
    | refine Nx.za ?_ | refine Nx.zr (fun hc => ?_) (fun hc => ?_)
    | refine Nx.zq ?_ | refine Nx.zu (fun hc => ?_) (fun hc => ?_)
    | refine Nx.zx ?_ | fail
  revert bx; intro b3
  refine Nx.p_loop (σ := Nat × Option Addr × Nat × List VRow) (fun s => [(3, .pointer (some ⟨b3, 0, none⟩)), (7, .slice s.2.1 s.2.2.2.length s.2.2.1), (8, .int .i64 ((s.1 + 1 : Nat) : Int))])
    (fun s => [Vec 31 1 s.2.1 s.2.2.2.length s.2.2.1 (s.2.2.2.map vrowV), Stars (s.2.2.2.map vrowR), Blk b3 31 [.slice B v.length cv], F])
    (fun s => s.1 + 1 ≤ P ∧ s.2.2.2.map (fun m : VRow => lsts m.2.2) = margs (lsts v) s.1) (fun s => P - s.1) (0, none, 0, []) rfl
    ⟨by omega, rfl⟩ ⟨rfl, rfl, rfl, trivial⟩ (((Ent.vec_nil _ _ _).trans (Ent.stars_nil _)).trans (by (exact Ent.auto))) ?_
  rintro ⟨n, As, cs, ms⟩ ⟨hn, hms⟩
  dsimp only at hn hms ⊢
  have hmsl := MargIn_len hms
  by_cases hlt : n + 1 < P
  case neg =>
    obtain rfl : P = n + 1 := by omega
    repeat' first
      | ((with_reducible refine Nx.is_wp ?_); first | refine Nx.wo ?_ | refine Nx.zp (fun hc => ?_) (fun hc => ?_))
      | (refine Nx.zo ?_; first | refine Nx.opr rfl rfl ?_ | refine Nx.bin rfl rfl (run_shlP (by omega) hPe) rfl ?_ | refine Nx.so ?_ | refine Nx.sb (fun bx => ?_) | refine Nx.sa (fun A2 c2 => ?_))
      | refine Nx.za ?_ | refine Nx.zr (fun hc => ?_) (fun hc => ?_)
      | refine Nx.zq ?_ | refine Nx.zu (fun hc => ?_) (fun hc => ?_)
      | refine Nx.zx ?_ | fail
    exact Nx.ret_fn rfl [_, _] ⟨As, cs, ms, rfl, by rw [← hvl, ← hPe]; exact hms, rfl⟩ (by (exact Ent.auto))
  repeat' first
    | ((with_reducible refine Nx.is_wp ?_); first | refine Nx.wo ?_ | refine Nx.zp (fun hc => ?_) (fun hc => ?_))
    | (refine Nx.zo ?_; first | refine Nx.opr rfl rfl ?_ | refine Nx.bin rfl rfl (run_shlP (by omega) hPe) rfl ?_ | refine Nx.so ?_ | refine Nx.sb (fun bx => ?_) | refine Nx.sa (fun A2 c2 => ?_))
    | refine Nx.za ?_ | refine Nx.zr (fun hc => ?_) (fun hc => ?_)
    | refine Nx.zq ?_ | refine Nx.zu (fun hc => ?_) (fun hc => ?_)
    | refine Nx.zx ?_ | fail
  revert bx; intro b9
  refine Nx.p_loop (σ := Nat × Option Addr × Nat × List Row) (fun s => [(3, .pointer (some ⟨b3, 0, none⟩)), (7, .slice As ms.length cs), (8, .int .i64 ((n + 1 : Nat) : Int)), (9, .pointer (some ⟨b9, 0, none⟩)), (32, .slice B v.length cv), (33, .int .i64 v.length), (34, .int .i64 (s.1 : Int))])
    (fun s => [Blk b9 31 [.slice s.2.1 s.2.2.2.length s.2.2.1], Vec 25 1 s.2.1 s.2.2.2.length s.2.2.1 (s.2.2.2.map rowV), Stars (s.2.2.2.map rowR), Vec 31 1 As ms.length cs (ms.map vrowV), Stars (ms.map vrowR), Blk b3 31 [.slice B v.length cv], F])
    (fun s => s.1 ≤ v.length ∧ lsts s.2.2.2 = (margV (lsts v) (n + 1)).take s.1) (fun s => v.length - s.1) (0, none, 0, []) rfl ⟨Nat.zero_le _, rfl⟩ ⟨rfl, rfl, rfl, rfl, rfl, rfl, rfl, trivial⟩ (((Ent.vec_nil _ _ _).trans (Ent.stars_nil _)).trans (by (exact Ent.auto))) ?_
  rintro ⟨i, Am, cm, mr⟩ ⟨hi, hmr⟩
  dsimp only at hi hmr ⊢
  have hmrl : mr.length = i := by
    have := congrArg List.length hmr
    rw [lsts_len, List.length_take, margV_len, lsts_len] at this
    omega
  by_cases hil : i < v.length
  · have hin := hv.at hil
    have hgl := (hw.each i (by omega)).1
    have hlat := hs.at (k := i) (by omega)
    obtain ⟨q, hq⟩ : ∃ q, q = (n + 1) / 2 ^ i := ⟨_, rfl⟩
    have hq16 : q < 16 := by rw [hq]; exact Nat.lt_of_le_of_lt (Nat.div_le_self _ _) (by omega)
    have htk := margV_take (set := n + 1) (L := lsts v) (i := i) (by rw [lsts_len]; exact hil)
    rw [lsts_at v hil] at htk
    have hrd : ∀ (W : World) (R : List Res), Rd W I R ((ad B).add (i * 1)) (rowV (v.getD i default)) := fun W R => hv.outer.rd hil
    generalize v.getD i default = rw' at hin hgl htk hrd
    obtain ⟨G, cg, g⟩ := rw'
    dsimp only at hin hgl htk
    replace hrd : ∀ (W : World) (R : List Res), Rd W I R ((ad B).add (i * 1)) (.slice G g.length cg) := hrd
    have hg8 : g.length ≤ 8 := by omega
    have hinl := hin.len
    repeat' first
      | ((with_reducible refine Nx.is_wp ?_); first | refine Nx.wo ?_ | refine Nx.zp (fun hc => ?_) (fun hc => ?_))
      | (refine Nx.zo ?_; first | refine Nx.opr rfl rfl ?_ | refine Nx.indexAddr_nat (A := B) (i := i) (sz := 1) rfl rfl rfl rfl rfl hil hBv ?_ | refine Nx.load rfl rfl rfl (hrd _ _) ?_ | (refine Nx.blk_vec 0 0 1 rfl rfl (by omega) ?_; refine Nx.append rfl rfl rfl rfl (by kernel_rfl) rfl (Src.arr hin.arr (by simp) (by omega) (fun u hu => by obtain ⟨z, _, rfl⟩ := List.mem_map.1 hu; rfl)) (by omega) fun A3 c3 => ?_; rw [Nat.zero_add, List.nil_append]) | refine Nx.so ?_ | refine Nx.sb (fun bx => ?_) | refine Nx.sa (fun A2 c2 => ?_))
      | refine Nx.za ?_ | refine Nx.zr (fun hc => ?_) (fun hc => ?_)
      | refine Nx.zq ?_ | refine Nx.zu (fun hc => ?_) (fun hc => ?_)
      | refine Nx.zx ?_ | fail
    refine Nx.vec_fact fun _ hc3 hm3 hA3 => ?_
    refine Nx.p_loop (σ := Nat) (fun k => [(3, .pointer (some ⟨b3, 0, none⟩)), (7, .slice As ms.length cs), (8, .int .i64 ((n + 1 : Nat) : Int)), (9, .pointer (some ⟨b9, 0, none⟩)), (10, .int .i64 (i : Int)), (12, .slice A3 g.length c3), (32, .slice B v.length cv), (33, .int .i64 v.length), (34, .int .i64 (i : Int)), (43, .int .i64 g.length), (44, .int .i64 (k : Int))])
      (fun k => [Vec 3 1 A3 g.length c3 ((mixM (n + 1) i g k).map (Value.int .i64)), Blk b9 31 [.slice Am mr.length cm], Vec 25 1 Am mr.length cm (mr.map rowV), Stars (mr.map rowR), Vec 31 1 As ms.length cs (ms.map vrowV), Stars (ms.map vrowR), Blk b3 31 [.slice B v.length cv], F])
      (fun k => k ≤ g.length) (fun k => g.length - k) 0 rfl (Nat.zero_le _) ⟨rfl, rfl, rfl, rfl, rfl, rfl, rfl, rfl, rfl, rfl, rfl, trivial⟩ (by rw [mixM_zero]; (exact Ent.auto)) ?_
    intro k hk
    have hk : k ≤ g.length := hk
    have hml := mixM_len (set := n + 1) (i := i) hk
    by_cases hkg : k < g.length
    · have hA3 := hA3 (by omega)
      have hat := mixM_at (set := n + 1) (i := i) hkg
      by_cases hcond : q % 2 = 1 ∧ 0 < g.getD k default
      · have hon := mixM_on hq hcond.1 hkg hcond.2
        obtain ⟨h1, h0⟩ := hcond
        repeat' first
          | ((with_reducible refine Nx.is_wp ?_); first | refine Nx.wo ?_ | refine Nx.zp (fun hc => ?_) (fun hc => ?_))
          | (refine Nx.zo ?_; first | refine Nx.opr rfl rfl ?_ | refine Nx.bin rfl rfl (run_shrN (by omega) hq) rfl ?_ | refine Nx.bin rfl rfl (run_and1 hq16) rfl ?_ | refine Nx.indexAddr_nat (A := A3) (i := k) (sz := 1) rfl rfl rfl rfl rfl hkg hA3 ?_ | refine Nx.load rfl rfl rfl (Rd.vecEl 0 rfl (by omega)) ?_ | refine Nx.so ?_ | refine Nx.sb (fun bx => ?_) | refine Nx.sa (fun A2 c2 => ?_))
          | refine Nx.za ?_ | refine Nx.zr (fun hc => ?_) (fun hc => ?_)
          | refine Nx.zq ?_ | refine Nx.zu (fun hc => ?_) (fun hc => ?_)
          | refine Nx.zx ?_ | fail
        refine Nx.again (k + 1) hkg (by omega) ⟨rfl, rfl, rfl, rfl, rfl, rfl, rfl, rfl, rfl, rfl, rfl, trivial⟩ ?_
        rw [hon]
        exact (by (exact Ent.auto))
      · have hoff := mixM_off hq hkg hcond
        have hc2 : ¬ q % 2 = 1 ∨ (q % 2 = 1 ∧ g.getD k default ≤ 0) := by omega
        rcases hc2 with h1 | ⟨h1, h0⟩
        all_goals
          repeat' first
            | ((with_reducible refine Nx.is_wp ?_); first | refine Nx.wo ?_ | refine Nx.zp (fun hc => ?_) (fun hc => ?_))
            | (refine Nx.zo ?_; first | refine Nx.opr rfl rfl ?_ | refine Nx.bin rfl rfl (run_shrN (by omega) hq) rfl ?_ | refine Nx.bin rfl rfl (run_and1 hq16) rfl ?_ | refine Nx.indexAddr_nat (A := A3) (i := k) (sz := 1) rfl rfl rfl rfl rfl hkg hA3 ?_ | refine Nx.load rfl rfl rfl (Rd.vecEl 0 rfl (by omega)) ?_ | refine Nx.so ?_ | refine Nx.sb (fun bx => ?_) | refine Nx.sa (fun A2 c2 => ?_))
            | refine Nx.za ?_ | refine Nx.zr (fun hc => ?_) (fun hc => ?_)
            | refine Nx.zq ?_ | refine Nx.zu (fun hc => ?_) (fun hc => ?_)
            | refine Nx.zx ?_ | fail
          refine Nx.again (k + 1) hkg (by omega) ⟨rfl, rfl, rfl, rfl, rfl, rfl, rfl, rfl, rfl, rfl, rfl, trivial⟩ ?_
          rw [hoff]
          exact (by (exact Ent.auto))
    · obtain rfl : k = g.length := by omega
      rw [mixM_full]
      have hgl2 := margL_len (n + 1) i g
      repeat' first
        | ((with_reducible refine Nx.is_wp ?_); first | refine Nx.wo ?_ | refine Nx.zp (fun hc => ?_) (fun hc => ?_))
        | (refine Nx.zo ?_; first | refine Nx.opr rfl rfl ?_ | refine Nx.so ?_ | refine Nx.sb (fun bx => ?_) | refine Nx.sa (fun A2 c2 => ?_))
        | refine Nx.za ?_ | refine Nx.zr (fun hc => ?_) (fun hc => ?_)
        | refine Nx.zq ?_ | refine Nx.zu (fun hc => ?_) (fun hc => ?_)
        | refine Nx.zx ?_ | fail
      refine Nx.again (i + 1, A2, c2, mr ++ [(A3, c3, margL (n + 1) i g)]) ⟨hil, by dsimp only; rw [snoc_lsts, hmr, htk]⟩ (by dsimp only; omega) ⟨rfl, rfl, rfl, rfl, rfl, rfl, rfl, trivial⟩ ?_
      dsimp only
      refine Ent.trans (R' := [rowR (A3, c3, margL (n + 1) i g), Stars (mr.map rowR), Blk b9 31 [.slice A2 (mr.length + 1) c2], Vec 25 1 A2 (mr.length + 1) c2 (mr.map rowV ++ [rowV (A3, c3, margL (n + 1) i g)]), Vec 31 1 As ms.length cs (ms.map vrowV), Stars (ms.map vrowR), Blk b3 31 [.slice B v.length cv], F]) (by unfold rowR rowV; dsimp only; rw [hgl2]; (exact Ent.auto)) (Ent.bundle.trans ?_)
      rw [List.length_append, List.map_append, List.map_append]
      exact (by (exact Ent.auto))
  obtain rfl : i = v.length := by omega
  have hmr : lsts mr = margV (lsts v) (n + 1) := by rw [hmr, List.take_of_length_le (by rw [margV_len, lsts_len]; exact Nat.le_refl _)]
  refine Nx.ent (R' := [ViewR Am cm mr, Blk b9 31 [.slice Am mr.length cm], Vec 31 1 As ms.length cs (ms.map vrowV), Stars (ms.map vrowR), Blk b3 31 [.slice B v.length cv], F]) ((Ent.trans (R' := [Vec 25 1 Am mr.length cm (mr.map rowV), Stars (mr.map rowR), Blk b9 31 [.slice Am mr.length cm], Vec 31 1 As ms.length cs (ms.map vrowV), Stars (ms.map vrowR), Blk b3 31 [.slice B v.length cv], F]) (by (exact Ent.auto)) Ent.pack2)) ?_
  repeat' first
    | ((with_reducible refine Nx.is_wp ?_); first | refine Nx.wo ?_ | refine Nx.zp (fun hc => ?_) (fun hc => ?_))
    | (refine Nx.zo ?_; first | refine Nx.opr rfl rfl ?_ | (refine Nx.call_lendR 0 rfl rfl rfl (by kernel_rfl) rfl rfl (fun m I' hI hm h => SameD_spec Am B cm cv mr v I' (ViewR.rows hm h) (hv.mono hI)) ?_; rintro _ R' ⟨rfl, rfl⟩) | refine Nx.so ?_ | refine Nx.sb (fun bx => ?_) | refine Nx.sa (fun A2 c2 => ?_))
    | refine Nx.za ?_ | refine Nx.zr (fun hc => ?_) (fun hc => ?_)
    | refine Nx.zq ?_ | refine Nx.zu (fun hc => ?_) (fun hc => ?_)
    | refine Nx.zx ?_ | fail
  refine Nx.ent (R' := [Vec 31 1 As ms.length cs (ms.map vrowV), ViewR Am cm mr, Blk b9 31 [.slice Am mr.length cm], Stars (ms.map vrowR), Blk b3 31 [.slice B v.length cv], F]) (by (exact Ent.auto)) ?_
  refine Nx.vec_fact fun _ _ _ hAs => ?_
  have hLl : (ms.map fun m : VRow => lsts m.2.2).length = ms.length := List.length_map ..
  refine Nx.p_loop (σ := Nat) (fun j => [(3, .pointer (some ⟨b3, 0, none⟩)), (7, .slice As ms.length cs), (8, .int .i64 ((n + 1 : Nat) : Int)), (9, .pointer (some ⟨b9, 0, none⟩)), (14, .bool (isM (lsts v) (lsts mr) (ms.map fun m : VRow => lsts m.2.2) j)), (73, .slice As ms.length cs), (74, .int .i64 ms.length), (75, .int .i64 (j : Int))])
    (fun _ => [Vec 31 1 As ms.length cs (ms.map vrowV), ViewR Am cm mr, Blk b9 31 [.slice Am mr.length cm], Stars (ms.map vrowR), Blk b3 31 [.slice B v.length cv], F])
    (fun j => j ≤ ms.length) (fun j => ms.length - j) 0 rfl (Nat.zero_le _) ⟨rfl, rfl, rfl, rfl, by rw [isM_zero]; rfl, rfl, rfl, rfl, trivial⟩ (by (exact Ent.auto)) ?_
  intro j hj
  have hj : j ≤ ms.length := hj
  by_cases hjl : j < ms.length
  · have hAs := hAs (by omega)
    obtain ⟨⟨Ax, cx, xv⟩, hx⟩ : ∃ x, ms.getD j default = x := ⟨_, rfl⟩
    have hsu := isM_succ (V := lsts v) (M := lsts mr) (j := j) (by rw [hLl]; exact hjl) (lstsM_at hjl hx)
    dsimp only at hsu
    have hrow : ∀ (m I' : PH), PH.le m I' → Stars (ms.map vrowR) m → RowsOf I' Ax cx xv := fun m I' hm h => by
      have := vrow_at hm h hjl
      rw [hx] at this
      exact this
    generalize isM (lsts v) (lsts mr) (ms.map fun m : VRow => lsts m.2.2) j = t at hsu
    cases t with
    | true =>
      rw [Bool.true_or] at hsu
      repeat' first
        | ((with_reducible refine Nx.is_wp ?_); first | refine Nx.wo ?_ | refine Nx.zp (fun hc => ?_) (fun hc => ?_))
        | (refine Nx.zo ?_; first | refine Nx.opr rfl rfl ?_ | refine Nx.indexAddr_nat (A := As) (i := j) (sz := 1) rfl rfl rfl rfl rfl hjl hAs ?_ | refine Nx.loads rfl rfl rfl rfl (Rds.vecOne (u := .slice Ax xv.length cx) 0 rfl hjl (by rw [hx]; rfl)) rfl ?_ | refine Nx.so ?_ | refine Nx.sb (fun bx => ?_) | refine Nx.sa (fun A2 c2 => ?_))
        | refine Nx.za ?_ | refine Nx.zr (fun hc => ?_) (fun hc => ?_)
        | refine Nx.zq ?_ | refine Nx.zu (fun hc => ?_) (fun hc => ?_)
        | refine Nx.zx ?_ | fail
      exact Nx.again (j + 1) hjl (by omega) ⟨rfl, rfl, rfl, rfl, by rw [hsu]; rfl, rfl, rfl, rfl, trivial⟩ (by (exact Ent.auto))
    | false =>
      rw [Bool.false_or] at hsu
      repeat' first
        | ((with_reducible refine Nx.is_wp ?_); first | refine Nx.wo ?_ | refine Nx.zp (fun hc => ?_) (fun hc => ?_))
        | (refine Nx.zo ?_; first | refine Nx.opr rfl rfl ?_ | refine Nx.indexAddr_nat (A := As) (i := j) (sz := 1) rfl rfl rfl rfl rfl hjl hAs ?_ | refine Nx.loads rfl rfl rfl rfl (Rds.vecOne (u := .slice Ax xv.length cx) 0 rfl hjl (by rw [hx]; rfl)) rfl ?_ | (refine Nx.call_lendR2 2 3 rfl rfl rfl (by kernel_rfl) rfl rfl rfl (fun m m2 I' hI hm h hm2 h2 => SameD_spec Am Ax cm cx mr xv I' (ViewR.rows hm h) (hrow m2 I' hm2 h2)) ?_; rintro _ R' ⟨rfl, rfl⟩) | refine Nx.so ?_ | refine Nx.sb (fun bx => ?_) | refine Nx.sa (fun A2 c2 => ?_))
        | refine Nx.za ?_ | refine Nx.zr (fun hc => ?_) (fun hc => ?_)
        | refine Nx.zq ?_ | refine Nx.zu (fun hc => ?_) (fun hc => ?_)
        | refine Nx.zx ?_ | fail
      exact Nx.again (j + 1) hjl (by omega) ⟨rfl, rfl, rfl, rfl, by rw [hsu]; rfl, rfl, rfl, rfl, trivial⟩ (by (exact Ent.auto))
  obtain rfl : j = ms.length := by omega
  have hfull := isM_full (lsts v) (lsts mr) (ms.map fun m : VRow => lsts m.2.2)
  rw [hLl] at hfull
  by_cases hin : lsts mr = lsts v ∨ lsts mr ∈ ms.map fun m : VRow => lsts m.2.2
  · rw [decide_eq_true hin] at hfull
    rw [hfull]
    have hme : margs (lsts v) (n + 1) = margs (lsts v) n := by
      show (if _ then _ else _) = _
      rw [if_pos (by rw [← hmr, ← hms]; exact hin)]
    repeat' first
      | ((with_reducible refine Nx.is_wp ?_); first | refine Nx.wo ?_ | refine Nx.zp (fun hc => ?_) (fun hc => ?_))
      | (refine Nx.zo ?_; first | refine Nx.opr rfl rfl ?_ | refine Nx.so ?_ | refine Nx.sb (fun bx => ?_) | refine Nx.sa (fun A2 c2 => ?_))
      | refine Nx.za ?_ | refine Nx.zr (fun hc => ?_) (fun hc => ?_)
      | refine Nx.zq ?_ | refine Nx.zu (fun hc => ?_) (fun hc => ?_)
      | refine Nx.zx ?_ | fail
    exact Nx.again (n + 1, As, cs, ms) ⟨hlt, by dsimp only; rw [hms, hme]⟩ (by dsimp only; omega) ⟨rfl, rfl, rfl, trivial⟩ (by (exact Ent.auto))
  · rw [decide_eq_false hin] at hfull
    rw [hfull]
    have hme : margs (lsts v) (n + 1) = margs (lsts v) n ++ [margV (lsts v) (n + 1)] := by
      show (if _ then _ else _) = _
      rw [if_neg (by rw [← hmr, ← hms]; exact hin)]
    repeat' first
      | ((with_reducible refine Nx.is_wp ?_); first | refine Nx.wo ?_ | refine Nx.zp (fun hc => ?_) (fun hc => ?_))
      | (refine Nx.zo ?_; first | refine Nx.opr rfl rfl ?_ | refine Nx.so ?_ | refine Nx.sb (fun bx => ?_) | refine Nx.sa (fun A2 c2 => ?_))
      | refine Nx.za ?_ | refine Nx.zr (fun hc => ?_) (fun hc => ?_)
      | refine Nx.zq ?_ | refine Nx.zu (fun hc => ?_) (fun hc => ?_)
      | refine Nx.zx ?_ | fail
    refine Nx.again (n + 1, A2, c2, ms ++ [(Am, cm, mr)]) ⟨hlt, by dsimp only; rw [List.map_append, hms, hme, ← hmr]; rfl⟩ (by dsimp only; omega) ⟨rfl, by dsimp only; rw [List.length_append]; rfl, rfl, trivial⟩ ?_
    dsimp only
    refine Ent.trans (R' := [ViewR Am cm mr, Stars (ms.map vrowR), Vec 31 1 A2 (ms.length + 1) c2 (ms.map vrowV ++ [.slice Am mr.length cm]), Blk b3 31 [.slice B v.length cv], F]) (by (exact Ent.auto)) (Ent.bundle.trans ?_)
    rw [List.length_append, List.map_append, List.map_append]
    exact (by (exact Ent.auto))
set_option maxHeartbeats 2000000 in
set_option maxRecDepth 10000 in
theorem RMarginsA_spec (A B : Option Addr) (c cv : Nat) (l : List Int) (v : List Row) (I : PH) (hl : Ints I A c l) (hv : RowsOf I B cv v) :
    FnSpec Tryd.prog 43 [.agg #[.slice A l.length c], .agg #[.slice B v.length cv]] I []
      (fun u R' => ∃ (A' : Option Addr) (c' : Nat) (ms : List VRow), u = .tuple #[.slice A' ms.length c', .int .i64 (marA l v).2] ∧ ms.map (fun m : VRow => lsts m.2.2) = (marA l v).1 ∧ R' = vsR A' c' ms) := by
  unfold marA
  by_cases hs : Sizes l ∧ Viewed l v
  · rw [if_pos (view_iff.2 hs)]; exact RMargins_spec A B c cv l v I hl hs.1 hv hs.2
  rw [if_neg fun h => hs (view_iff.1 h)]
  have hC := RViewA_spec A B c cv l v I hl hv
  rw [viE_no hs] at hC
  refine FnSpec.enterP Tryd.func43 rfl Tryd.ntmps43 rfl fun w F => ?_
  repeat' first
    | ((with_reducible refine Nx.is_wp ?_); first | refine Nx.wo ?_ | refine Nx.zp (fun hc => ?_) (fun hc => ?_))
    | (refine Nx.zo ?_; first | refine Nx.opr rfl rfl ?_ | refine Nx.callv rfl rfl rfl (by kernel_rfl) rfl hC ?_ | refine Nx.so ?_ | refine Nx.sb (fun bx => ?_) | refine Nx.sa (fun A2 c2 => ?_))
    | refine Nx.za ?_ | refine Nx.zr (fun hc => ?_) (fun hc => ?_)
    | refine Nx.zq ?_ | refine Nx.zu (fun hc => ?_) (fun hc => ?_)
    | refine Nx.zx ?_ | fail
  exact Nx.ret_fn rfl [_, _] ⟨none, 0, [], rfl, rfl, rfl⟩ (((Ent.vec_nil _ _ _).trans (Ent.stars_nil _)).trans (by (exact Ent.auto)))
end Go.Proofs.YtpmlehplbobjmaaDoor
/-
  The proof engine, part AE: operations with one operand, in an open statement.
-/
namespace Go.Eng
section
variable {C : Cx} {e : Env} {S : World → Prop} {ty t u : TypeId} {pos : String} {after : Array Edge} {g : Option (Nat × Bool)} {x : Operand} {dst : Option Tmp}
theorem QRun.un {op : UnOp} {vx v : Value} (hx : evo e x = some vx) (hv : pureRun C.P (Op.unary op vx) = some v) : QRun C e S ⟨dst, .unOp op t x, ty, pos, after, g⟩ v :=
  fun a w ha _ => by simp only [execOp, ha.eval hx]; exact run_v (run_of_pureRun hv w)
theorem QRun.neg {p : Int} (hx : evo e x = some (.int .i64 p)) (hr : I64 (-p)) : QRun C e S ⟨dst, .unOp .neg t x, ty, pos, after, g⟩ (.int .i64 (-p)) :=
  QRun.un hx (by rw [← wrap_i64 hr, ← Int.zero_sub]; rfl)
theorem Nx.unstop {I : PH} {R : List Res} {K : Act → World → Prop} (h : Nx C e I R K) : Nx C e I R (Stop K) := h
end
end Go.Eng
/- Contracts of functions of the given program, and lemmas about plain lists and numbers: what the laws of this seat lean on. -/
namespace Go.Proofs.YtpmlehplbobjmaaDoor
open Go.Eng
attribute [local irreducible] opK wpList Code.wp Exit.then Exit.inBlock fnPost bodyPost Nx Calls Oper.wp Rd Rds Wr Ent Stars Blk Again Vec FnSpec wpMix QRun Stop Upto wpAt
/-! All functions of views do what the reference does -/
set_option maxRecDepth 10000 in
set_option maxHeartbeats 8000000 in
theorem view_spec (A B T : Option Addr) (c cv ct : Nat) (l t : List Int) (v : List Row) (k : Int) (I : PH) (hl : Ints I A c l) (hv : RowsOf I B cv v) (ht : Ints I T ct t) :
    FnSpec Tryd.prog 24 [.agg #[.slice A l.length c], .agg #[.slice B v.length cv], .slice T t.length ct, .int .i64 k] I [] (fun u R' => u = .bool true ∧ R' = []) := by
  have m1 := MembersA_spec A B c cv l v k I hl hv
  have m2 := RMembersA_spec A B c cv l v k I hl hv
  have p1 := PublishA_spec A B T c cv ct l t v I hl hv ht
  have p2 := RPublishA_spec A B T c cv ct l t v I hl hv ht
  have g1 := MarginsA_spec A B c cv l v I hl hv
  have g2 := RMarginsA_spec A B c cv l v I hl hv
  generalize memA l v k = M at m1 m2
  generalize pubA l v t = Q at p1 p2
  generalize marA l v = G at g1 g2
  obtain ⟨M, eM⟩ := M
  obtain ⟨Q, eQ⟩ := Q
  obtain ⟨G, eG⟩ := G
  dsimp only at m1 m2 p1 p2 g1 g2
  refine FnSpec.enterP Tryd.func24 rfl Tryd.ntmps24 rfl fun w F => ?_
  repeat' first
    | ((with_reducible refine Nx.is_wp ?_); first | refine Nx.p_stopr 7 rfl ?_ | refine Nx.wo ?_ | refine Nx.zp (fun hc => ?_) (fun hc => ?_))
    | (refine Nx.zo ?_; first | refine Nx.opr rfl rfl ?_ | (refine Nx.call (Rpre := []) rfl rfl rfl (by kernel_rfl) rfl m1 (Ent.refl _) ?_; rintro _ _ ⟨A1, c1, rfl, rfl⟩) | (refine Nx.call (Rpre := []) rfl rfl rfl (by kernel_rfl) rfl m2 (Ent.refl _) ?_; rintro _ _ ⟨A2, c2, rfl, rfl⟩) | (refine Nx.call (Rpre := []) rfl rfl rfl (by kernel_rfl) rfl p1 (Ent.refl _) ?_; rintro _ _ ⟨A3, c3, rfl, rfl⟩) | (refine Nx.call (Rpre := []) rfl rfl rfl (by kernel_rfl) rfl p2 (Ent.refl _) ?_; rintro _ _ ⟨A4, c4, rfl, rfl⟩) | (refine Nx.call (Rpre := []) rfl rfl rfl (by kernel_rfl) rfl g1 (Ent.refl _) ?_; rintro _ _ ⟨A5, c5, x, rfl, hx, rfl⟩) | (refine Nx.call (Rpre := []) rfl rfl rfl (by kernel_rfl) rfl g2 (Ent.refl _) ?_; rintro _ _ ⟨A6, c6, y, rfl, hy, rfl⟩) | refine Nx.so ?_ | refine Nx.sb (fun bx => ?_) | refine Nx.sa (fun A2 c2 => ?_))
    | refine Nx.za ?_ | refine Nx.zr (fun hc => ?_) (fun hc => ?_)
    | refine Nx.zq ?_ | refine Nx.zu (fun hc => ?_) (fun hc => ?_)
    | refine Nx.zx ?_ | fail
  refine Nx.unstop ?_
  rename_i b4
  revert bx; intro b5
  refine Nx.ent (R' := [Stars [isR A1 c1 M, isR A2 c2 M, isR A3 c3 Q, isR A4 c4 Q, Vec 31 1 A5 x.length c5 (x.map vrowV), Stars (x.map vrowR), Vec 31 1 A6 y.length c6 (y.map vrowV), Stars (y.map vrowR)], Blk b4 27 [.slice A l.length c], Blk b5 31 [.slice B v.length cv], F]) (by refine Ent.trans ?_ Ent.stars; unfold vsR; (exact Ent.auto)) ?_
  refine Nx.freezeAt 0 rfl fun I1 m hI1 hm h => ?_
  obtain ⟨n1, le1, r1⟩ := Stars.get 0 h rfl
  obtain ⟨n2, le2, r2⟩ := Stars.get 1 h rfl
  obtain ⟨n3, le3, r3⟩ := Stars.get 2 h rfl
  obtain ⟨n4, le4, r4⟩ := Stars.get 3 h rfl
  obtain ⟨n5, le5, r5⟩ := Stars.get 4 h rfl
  obtain ⟨n6, le6, r6⟩ := Stars.get 5 h rfl
  obtain ⟨n7, le7, r7⟩ := Stars.get 6 h rfl
  obtain ⟨n8, le8, r8⟩ := Stars.get 7 h rfl
  have q1 : Ints I1 A1 c1 M := Vec.sliceOf (le1.trans hm) r1
  have q2 : Ints I1 A2 c2 M := Vec.sliceOf (le2.trans hm) r2
  have q3 : Ints I1 A3 c3 Q := Vec.sliceOf (le3.trans hm) r3
  have q4 : Ints I1 A4 c4 Q := Vec.sliceOf (le4.trans hm) r4
  have q5 : SliceOf vrowV I1 A5 c5 x := Vec.sliceOf (le5.trans hm) r5
  have q7 : SliceOf vrowV I1 A6 c6 y := Vec.sliceOf (le7.trans hm) r7
  have hxl := q5.len
  have hxy : x.length = y.length := by
    have := congrArg List.length (hx.trans hy.symm)
    rwa [List.length_map, List.length_map] at this
  have hV := ViewA_spec A B c cv l v I1 (hl.mono hI1) (hv.mono hI1)
  have hRV := RViewA_spec A B c cv l v I1 (hl.mono hI1) (hv.mono hI1)
  have hP := PublishedA_spec A B c cv l v I1 (hl.mono hI1) (hv.mono hI1)
  have hRP := RPublishedA_spec A B c cv l v I1 (hl.mono hI1) (hv.mono hI1)
  generalize viE l v = eV at hV hRV
  generalize pbdA l v = eP at hP hRP
  have i12 := Ints_spec A1 A2 c1 c2 M M I1 q1 q2
  have i34 := Ints_spec A3 A4 c3 c4 Q Q I1 q3 q4
  rw [decide_eq_true rfl] at i12 i34
  repeat' first
    | ((with_reducible refine Nx.is_wp ?_); first | refine Nx.wo ?_ | refine Nx.p_draw (id := 7) rfl [0, 1, 3, 4, 2, 5, 6, 7, 8, 9, 11, 12, 10, 13, 14, 15, 16, 17, 18, 19, 20, 21, 22, 23, 24, 25, 26, 27, 28, 29, 30, 31, 32, 33, 34, 35, 36, 37, 38, 39, 40, 41, 42, 43, 44, 45, 46, 47, 48, 49] [2, 5, 10, 13, 19, 30] _ rfl rfl (by kernel_rfl) (by kernel_rfl) rfl PanicOk.auto (Ent.refl _) ?_ | refine Nx.p_draw (id := 12) rfl [0, 1, 2, 3, 4, 5, 6, 7, 8, 9] [8] _ rfl rfl (by kernel_rfl) (by kernel_rfl) rfl PanicOk.auto (Ent.refl _) ?_ | refine Nx.zp (fun hc => ?_) (fun hc => ?_))
    | (refine Nx.zo ?_; first | refine Nx.opr rfl rfl ?_ | refine Nx.callv rfl rfl rfl (by kernel_rfl) rfl hV ?_ | refine Nx.callv rfl rfl rfl (by kernel_rfl) rfl hRV ?_ | refine Nx.callv rfl rfl rfl (by kernel_rfl) rfl hP ?_ | refine Nx.callv rfl rfl rfl (by kernel_rfl) rfl hRP ?_ | refine Nx.callv rfl rfl rfl (by kernel_rfl) rfl i12 ?_ | refine Nx.callv rfl rfl rfl (by kernel_rfl) rfl i34 ?_ | refine Nx.so ?_ | refine Nx.sb (fun bx => ?_) | refine Nx.sa (fun A2 c2 => ?_))
    | refine Nx.za ?_ | refine Nx.zr (fun hc => ?_) (fun hc => ?_)
    | refine Nx.zq ?_ | refine Nx.zu (fun hc => ?_) (fun hc => ?_)
    | refine Nx.zx ?_ | fail
  refine Nx.p_loop (σ := Nat) (fun i => [(17, .slice A5 x.length c5), (19, .slice A6 y.length c6), (113, .int .i64 x.length), (114, .int .i64 (i : Int))])
    (fun _ => [F]) (fun i => i ≤ x.length) (fun i => x.length - i) 0 rfl (Nat.zero_le _) ⟨rfl, rfl, rfl, rfl, trivial⟩ (by (exact Ent.auto)) ?_
  intro i hi
  have hi : i ≤ x.length := hi
  by_cases hil : i < x.length
  case neg =>
    repeat' first
      | ((with_reducible refine Nx.is_wp ?_); first | refine Nx.wo ?_ | refine Nx.zp (fun hc => ?_) (fun hc => ?_))
      | (refine Nx.zo ?_; first | refine Nx.opr rfl rfl ?_ | refine Nx.so ?_ | refine Nx.sb (fun bx => ?_) | refine Nx.sa (fun A2 c2 => ?_))
      | refine Nx.za ?_ | refine Nx.zr (fun hc => ?_) (fun hc => ?_)
      | refine Nx.zq ?_ | refine Nx.zu (fun hc => ?_) (fun hc => ?_)
      | refine Nx.zx ?_ | fail
    exact Nx.imm_le hI1 (Nx.ret_fn rfl [] ⟨rfl, rfl⟩ (by (exact Ent.auto)))
  have hiy : i < y.length := by omega
  have hXs := q5.isSome (by omega)
  have hYs := q7.isSome (by omega)
  have hrx : RowsOf I1 (x.getD i default).1 (x.getD i default).2.1 (x.getD i default).2.2 := vrow_at (le6.trans hm) r6 hil
  have hry : RowsOf I1 (y.getD i default).1 (y.getD i default).2.1 (y.getD i default).2.2 := vrow_at (le8.trans hm) r8 hiy
  have hsame : lsts (x.getD i default).2.2 = lsts (y.getD i default).2.2 := by rw [← lstsM_at hil rfl, ← lstsM_at hiy rfl, hx, hy]
  have hdx : ∀ (W : World) (R : List Res), Rds W I1 R ((ad A5).add (i * 1)) [vrowV (x.getD i default)] := fun W R => SliceOf.rds1 q5 hil
  have hdy : ∀ (W : World) (R : List Res), Rds W I1 R ((ad A6).add (i * 1)) [vrowV (y.getD i default)] := fun W R => SliceOf.rds1 q7 hiy
  generalize x.getD i default = xi at hrx hsame hdx
  generalize y.getD i default = yi at hry hsame hdy
  obtain ⟨Ax, cx, xv⟩ := xi
  obtain ⟨Ay, cy, yv⟩ := yi
  dsimp only at hrx hry hsame
  replace hdx : ∀ (W : World) (R : List Res), Rds W I1 R ((ad A5).add (i * 1)) [.slice Ax xv.length cx] := hdx
  replace hdy : ∀ (W : World) (R : List Res), Rds W I1 R ((ad A6).add (i * 1)) [.slice Ay yv.length cy] := hdy
  have hS := SameD_spec Ax Ay cx cy xv yv I1 hrx hry
  rw [decide_eq_true hsame] at hS
  repeat' first
    | ((with_reducible refine Nx.is_wp ?_); first | refine Nx.wo ?_ | refine Nx.p_draw (id := 7) rfl [0, 1, 3, 4, 2, 5, 6, 7, 8, 9, 11, 12, 10, 13, 14, 15, 16, 17, 18, 19, 20, 21, 22, 23, 24, 25, 26, 27, 28, 29, 30, 31, 32, 33, 34, 35, 36, 37, 38, 39, 40, 41, 42, 43, 44, 45, 46, 47, 48, 49] [2, 5, 10, 13, 19, 30] _ rfl rfl (by kernel_rfl) (by kernel_rfl) rfl PanicOk.auto (Ent.refl _) ?_ | refine Nx.p_draw (id := 12) rfl [0, 1, 2, 3, 4, 5, 6, 7, 8, 9] [8] _ rfl rfl (by kernel_rfl) (by kernel_rfl) rfl PanicOk.auto (Ent.refl _) ?_ | refine Nx.zp (fun hc => ?_) (fun hc => ?_))
    | (refine Nx.zo ?_; first | refine Nx.opr rfl rfl ?_ | refine Nx.callv rfl rfl rfl (by kernel_rfl) rfl hS ?_ | refine Nx.so ?_ | refine Nx.sb (fun bx => ?_) | refine Nx.sa (fun A2 c2 => ?_))
    | refine Nx.za ?_ | refine Nx.zr (fun hc => ?_) (fun hc => ?_)
    | ((with_reducible refine Nx.is_mix ?_); first | refine Nx.m_quiet rfl rfl rfl rfl rfl (by first | exact QRun.opr rfl | exact QRun.idx (A := A5) (i := i) (sz := 1) rfl rfl rfl rfl hil hXs | exact QRun.idx (A := A6) (i := i) (sz := 1) rfl rfl rfl rfl hiy hYs | exact QRun.loads rfl rfl rfl (hdx _ _) rfl | exact QRun.loads rfl rfl rfl (hdy _ _) rfl) ?_ | refine Nx.m_quiet_do rfl rfl rfl rfl rfl rfl rfl (by first | exact QRun.opr rfl | exact QRun.idx (A := A5) (i := i) (sz := 1) rfl rfl rfl rfl hil hXs | exact QRun.idx (A := A6) (i := i) (sz := 1) rfl rfl rfl rfl hiy hYs | exact QRun.loads rfl rfl rfl (hdx _ _) rfl | exact QRun.loads rfl rfl rfl (hdy _ _) rfl) ?_ | refine Nx.m ?_ | refine Nx.zm ?_ | refine Nx.zt (fun hc => ?_) (fun hc => ?_))
    | refine Nx.zx ?_ | fail
  exact Nx.again (i + 1) hil (by omega) ⟨rfl, rfl, rfl, rfl, trivial⟩ (by (exact Ent.auto))
end Go.Proofs.YtpmlehplbobjmaaDoor
/- Contracts of functions of the given program, and lemmas about plain lists and numbers: what the laws of this seat lean on. -/
namespace Go.Proofs.YtpmlehplbobjmaaDoor
open Go.Eng
/-! A space and a view that come in -/
section
open Go.ChangeShapes Go.WideShapes Go.RowKit Go.Deep
variable {H : Type} {enc : TypeId × Value → H} {W : World} {base : Nat} {v : Value} {d : DataW H} {ps : List MemPlace} {sp : Nat → Bool}
theorem cat_cells {fuel : Nat} {cs : List Value} {x : DataW H × List MemPlace} (h : DataW.trod enc Tryd.prog W base sp true fuel 25 cs = some x) : ∃ y : Row, cs = [rowV y] ∧ Ints (fun i => W.heap[i]?) y.1 y.2.1 y.2.2 := by
  rcases ChangeShapes.open_ints Tryd.underlying25 Tryd.underlying3 (by kernel_rfl) h with ⟨hcs, _⟩ | ⟨a, n, c, zs, hcs, _, hle, hm, hz, _, hcell, _⟩
  · exact ⟨(none, 0, []), hcs, SliceOf.nil⟩
  · have hzl : n ≤ zs.length := by rw [hz]; split <;> omega
    have hlen : (zs.take n).length = n := by rw [List.length_take]; omega
    refine ⟨(some a, c, zs.take n), by rw [hcs]; show [Value.slice (some a) n c] = [Value.slice (some a) (zs.take n).length c]; rw [hlen], ⟨fun j u hj => ⟨rfl, ?_⟩, by dsimp only; rw [hlen]; exact hle, hm⟩⟩
    dsimp only at hj
    rw [List.getElem?_map, List.getElem?_take] at hj
    split at hj
    · rename_i hjn
      have := hcell j (by omega)
      rw [List.getElem?_eq_getElem (by omega)] at hj
      simp at hj
      rw [List.getD_eq_getElem?_getD, List.getElem?_eq_getElem (by omega)] at this
      rw [← hj]
      exact this
    · simp at hj
theorem choose_cat {n : Nat} {p : Nat → Row → Prop} (h : ∀ i, i < n → ∃ y, p i y) : ∃ q : Nat → Row, ∀ i, i < n → p i (q i) :=
  ⟨fun i => if hi : i < n then (h i hi).choose else default, fun i hi => by dsimp only; rw [dif_pos hi]; exact (h i hi).choose_spec⟩
set_option maxRecDepth 100000 in
theorem cats_cells {fuel : Nat} {cs : List Value} {x : DataW H × List MemPlace} (h : DataW.trod enc Tryd.prog W base sp true fuel 29 cs = some x) :
    ∃ (A : Option Addr) (c : Nat) (o : List Row), cs = [.slice A o.length c] ∧ RowsOf (fun i => W.heap[i]?) A c o := by
  have hc1 : Tryd.prog.cellsOf 25 = 1 := by kernel_rfl
  rcases open_slice Tryd.underlying29 h with ⟨hcs, hx⟩ | ⟨a, len, cap, m, n', D, Pl, hcs, _, hle, hm, hmm, _, hcell⟩
  · exact ⟨none, 0, [], hcs, SliceOf.nil, by simp⟩
  · have hnm : len ≤ m := by rw [hmm]; split <;> omega
    obtain ⟨q, hq⟩ := choose_cat (n := len) (p := fun i y => W.cell? (a.add i) = some (rowV y) ∧ Ints (fun i => W.heap[i]?) y.1 y.2.1 y.2.2) (fun i hi => by
      obtain ⟨cs', h1, h2⟩ := hcell i (by omega)
      obtain ⟨y, rfl, ho⟩ := cat_cells h2
      refine ⟨y, ?_, ho⟩
      obtain ⟨_, _, h3⟩ := World.cells?_some h1
      have := h3 0 (by rw [hc1]; decide)
      rw [Addr.add_add, hc1] at this
      simpa using this)
    have hl : ((List.range len).map q).length = len := by simp
    refine ⟨some a, cap, (List.range len).map q, by rw [hl]; exact hcs, ⟨fun j u hj => ?_, by rw [hl]; exact hle, hm⟩, fun x hx => ?_⟩
    · rw [List.map_map, List.getElem?_map] at hj
      by_cases hjn : j < len
      · rw [List.getElem?_range hjn] at hj
        have hj : rowV (q j) = u := Option.some.inj hj
        rw [← hj]
        exact ⟨rfl, (hq j hjn).1⟩
      · rw [List.getElem?_eq_none (by simp; omega)] at hj
        cases hj
    · obtain ⟨i, hi, rfl⟩ := List.mem_map.1 hx
      exact (hq i (List.mem_range.1 hi)).2
set_option maxRecDepth 100000 in
theorem open_space (hval : Value.okWide Tryd.prog W .any base 27 v) (h : DataW.Trod enc Tryd.prog W 0 sp true 27 v d ps) :
    ∃ (A : Option Addr) (c : Nat) (l : List Int), v = .agg #[.slice A l.length c] ∧ Ints (fun i => W.heap[i]?) A c l := by
  obtain ⟨cs, rfl, hsz⟩ := okWide_struct Tryd.underlying27 hval
  obtain ⟨fuel, hf⟩ := h
  obtain ⟨y0, n, _, hl, h0⟩ := trod_struct1 Tryd.underlying27 hf
  have hl : cs.toList.length = 1 := hl
  obtain ⟨L⟩ := cs
  change L.length = 1 at hl
  match L, hl with
  | [c0], _ =>
    obtain ⟨⟨A, c, l⟩, e, ho⟩ := cat_cells (show DataW.trod enc Tryd.prog W 0 sp true n 25 [c0] = some y0 from h0)
    simp only [List.cons.injEq, and_true] at e
    subst e
    exact ⟨A, c, l, rfl, ho⟩
set_option maxRecDepth 100000 in
theorem open_view (hval : Value.okWide Tryd.prog W .any base 31 v) (h : DataW.Trod enc Tryd.prog W 0 sp true 31 v d ps) :
    ∃ (A : Option Addr) (c : Nat) (o : List Row), v = .agg #[.slice A o.length c] ∧ RowsOf (fun i => W.heap[i]?) A c o := by
  obtain ⟨cs, rfl, hsz⟩ := okWide_struct Tryd.underlying31 hval
  obtain ⟨fuel, hf⟩ := h
  obtain ⟨y0, n, _, hl, h0⟩ := trod_struct1 Tryd.underlying31 hf
  have hl : cs.toList.length = 1 := hl
  obtain ⟨L⟩ := cs
  change L.length = 1 at hl
  match L, hl with
  | [c0], _ =>
    obtain ⟨A, c, o, e, ho⟩ := cats_cells (show DataW.trod enc Tryd.prog W 0 sp true n 29 [c0] = some y0 from h0)
    simp only [List.cons.injEq, and_true] at e
    subst e
    exact ⟨A, c, o, rfl, ho⟩
end
end Go.Proofs.YtpmlehplbobjmaaDoor
/- Contracts of functions of the given program, and lemmas about plain lists and numbers: what the laws of this seat lean on. -/
namespace Go.Proofs.YtpmlehplbobjmaaDoor
open Go.Eng
attribute [local irreducible] opK wpList Code.wp Exit.then Exit.inBlock fnPost bodyPost Nx Calls Oper.wp Rd Rds Wr Ent Stars Blk Again Vec FnSpec wpMix QRun Stop Upto wpAt
/-! The law of answers: any spaces, views, lists and numbers -/
theorem tmod_modC (k : Int) {n : Int} (hn : 0 < n) : (k.tmod n < 0 → k.tmod n + n = k % n) ∧ (¬ k.tmod n < 0 → k.tmod n = k % n) := by
  have h1 := Int.mul_tdiv_add_tmod k n
  have h2 : (k.tmod n).natAbs < n.natAbs := by rw [Int.natAbs_tmod]; exact Nat.mod_lt _ (by omega)
  refine ⟨fun h => ?_, fun h => ?_⟩
  · refine ((Int.ediv_emod_unique hn).2 ⟨?_, ?_, ?_⟩ : k / n = k.tdiv n - 1 ∧ k % n = k.tmod n + n).2.symm
    · rw [Int.mul_sub]; omega
    · omega
    · omega
  · refine ((Int.ediv_emod_unique hn).2 ⟨?_, ?_, ?_⟩ : k / n = k.tdiv n ∧ k % n = k.tmod n).2.symm
    · omega
    · omega
    · omega
set_option maxHeartbeats 2000000 in
set_option maxRecDepth 10000 in
theorem ModC_spec (k n : Int) (hn : 1 ≤ n ∧ n ≤ 1000000) (I : PH) : FnSpec Tryd.prog 25 [.int .i64 k, .int .i64 n] I [] (fun v R' => v = .int .i64 (k % n) ∧ R' = []) := by
  obtain ⟨e1, e2⟩ := tmod_modC k (by omega : 0 < n)
  have hb : (k.tmod n).natAbs < n.natAbs := by rw [Int.natAbs_tmod]; exact Nat.mod_lt _ (by omega)
  refine FnSpec.enterP Tryd.func25 rfl Tryd.ntmps25 rfl fun w F => ?_
  repeat' first
    | ((with_reducible refine Nx.is_wp ?_); first | refine Nx.wo ?_ | refine Nx.zp (fun hc => ?_) (fun hc => ?_))
    | (refine Nx.zo ?_; first | refine Nx.opr rfl rfl ?_ | refine Nx.bin rfl rfl (run_remT (by omega)) rfl ?_ | refine Nx.so ?_ | refine Nx.sb (fun bx => ?_) | refine Nx.sa (fun A2 c2 => ?_))
    | refine Nx.za ?_ | refine Nx.zr (fun hc => ?_) (fun hc => ?_)
    | refine Nx.zq ?_ | refine Nx.zu (fun hc => ?_) (fun hc => ?_)
    | refine Nx.zx ?_ | fail
  all_goals first
    | exact Nx.ret_fn rfl [] ⟨by rw [e1 (by assumption)], rfl⟩ (Ent.refl _)
    | exact Nx.ret_fn rfl [] ⟨by rw [e2 (by assumption)], rfl⟩ (Ent.refl _)
theorem getD_memV {l : List VRow} {k : Nat} (h : k < l.length) : l.getD k default ∈ l := by rw [List.getD_eq_getElem?_getD, List.getElem?_eq_getElem h]; exact List.getElem_mem _
set_option maxRecDepth 10000 in
set_option maxHeartbeats 16000000 in
theorem CellsAnswers_spec (A0 : Option Addr) (c0 : Nat) (l0 : List Int) (A1 : Option Addr) (c1 : Nat) (v1 : List Row) (A2 : Option Addr) (c2 : Nat) (v2 : List Row) (A3 : Option Addr) (c3 : Nat) (l3 : List Int) (cell : Int) (A5 : Option Addr) (c5 : Nat) (l5 : List Int) (I : PH)
    (s0 : Ints I A0 c0 l0) (s1 : RowsOf I A1 c1 v1) (s2 : RowsOf I A2 c2 v2) (s3 : Ints I A3 c3 l3) (s5 : Bytes I A5 c5 l5) (w5 : ∀ x ∈ l5, 0 ≤ x ∧ x < 256) :
    FnSpec Tryd.prog 5 [.agg #[.slice A0 l0.length c0], .agg #[.slice A1 v1.length c1], .agg #[.slice A2 v2.length c2], .slice A3 l3.length c3, .int .i64 cell, .slice A5 l5.length c5] I [] (fun v R' => v = .bool true ∧ R' = []) := by
  have hL := bytes_take s5 w5
  have n0 := s0.len
  have n1 := s1.outer.len
  have n2 := s2.outer.len
  have n3 := s3.len
  refine FnSpec.enterP Tryd.func5 rfl Tryd.ntmps5 rfl fun w F => ?_
  by_cases k0 : l0.length ≤ 20
  case neg =>
    repeat' first
      | ((with_reducible refine Nx.is_wp ?_); first | refine Nx.wo ?_ | refine Nx.zp (fun hc => ?_) (fun hc => ?_))
      | (refine Nx.zo ?_; first | refine Nx.opr rfl rfl ?_ | refine Nx.callv rfl rfl rfl (by kernel_rfl) rfl (awake_spec _) ?_ | refine Nx.so ?_ | refine Nx.sb (fun bx => ?_) | refine Nx.sa (fun A2 c2 => ?_))
      | refine Nx.za ?_ | refine Nx.zr (fun hc => ?_) (fun hc => ?_)
      | refine Nx.zq ?_ | refine Nx.zu (fun hc => ?_) (fun hc => ?_)
      | refine Nx.zx ?_ | fail
    exact Nx.ret_fn rfl [] ⟨rfl, rfl⟩ (by (exact Ent.auto))
  by_cases k1 : v1.length ≤ 20
  case neg =>
    repeat' first
      | ((with_reducible refine Nx.is_wp ?_); first | refine Nx.wo ?_ | refine Nx.zp (fun hc => ?_) (fun hc => ?_))
      | (refine Nx.zo ?_; first | refine Nx.opr rfl rfl ?_ | refine Nx.callv rfl rfl rfl (by kernel_rfl) rfl (awake_spec _) ?_ | refine Nx.so ?_ | refine Nx.sb (fun bx => ?_) | refine Nx.sa (fun A2 c2 => ?_))
      | refine Nx.za ?_ | refine Nx.zr (fun hc => ?_) (fun hc => ?_)
      | refine Nx.zq ?_ | refine Nx.zu (fun hc => ?_) (fun hc => ?_)
      | refine Nx.zx ?_ | fail
    exact Nx.ret_fn rfl [] ⟨rfl, rfl⟩ (by (exact Ent.auto))
  by_cases k2 : v2.length ≤ 20
  case neg =>
    repeat' first
      | ((with_reducible refine Nx.is_wp ?_); first | refine Nx.wo ?_ | refine Nx.zp (fun hc => ?_) (fun hc => ?_))
      | (refine Nx.zo ?_; first | refine Nx.opr rfl rfl ?_ | refine Nx.callv rfl rfl rfl (by kernel_rfl) rfl (awake_spec _) ?_ | refine Nx.so ?_ | refine Nx.sb (fun bx => ?_) | refine Nx.sa (fun A2 c2 => ?_))
      | refine Nx.za ?_ | refine Nx.zr (fun hc => ?_) (fun hc => ?_)
      | refine Nx.zq ?_ | refine Nx.zu (fun hc => ?_) (fun hc => ?_)
      | refine Nx.zx ?_ | fail
    exact Nx.ret_fn rfl [] ⟨rfl, rfl⟩ (by (exact Ent.auto))
  by_cases k3 : l3.length ≤ 200
  case neg =>
    repeat' first
      | ((with_reducible refine Nx.is_wp ?_); first | refine Nx.wo ?_ | refine Nx.zp (fun hc => ?_) (fun hc => ?_))
      | (refine Nx.zo ?_; first | refine Nx.opr rfl rfl ?_ | refine Nx.callv rfl rfl rfl (by kernel_rfl) rfl (awake_spec _) ?_ | refine Nx.so ?_ | refine Nx.sb (fun bx => ?_) | refine Nx.sa (fun A2 c2 => ?_))
      | refine Nx.za ?_ | refine Nx.zr (fun hc => ?_) (fun hc => ?_)
      | refine Nx.zq ?_ | refine Nx.zu (fun hc => ?_) (fun hc => ?_)
      | refine Nx.zx ?_ | fail
    exact Nx.ret_fn rfl [] ⟨rfl, rfl⟩ (by (exact Ent.auto))
  repeat' first
    | ((with_reducible refine Nx.is_wp ?_); first | refine Nx.wo ?_ | refine Nx.zp (fun hc => ?_) (fun hc => ?_))
    | (refine Nx.zo ?_; first | refine Nx.opr rfl rfl ?_ | refine Nx.so ?_ | refine Nx.sb (fun bx => ?_) | refine Nx.sa (fun A2 c2 => ?_))
    | refine Nx.za ?_ | refine Nx.zr (fun hc => ?_) (fun hc => ?_)
    | refine Nx.zq ?_ | refine Nx.zu (fun hc => ?_) (fun hc => ?_)
    | refine Nx.zx ?_ | fail
  rename_i b6 b7 b8
  revert bx; intro b59
  refine Nx.freezeAt 0 rfl fun I1 m1 hI1 hm1 h1 => ?_
  have x2 : SliceOf vrowV I1 (some ⟨b59, 0, none⟩) 2 [(A1, c1, v1), (A2, c2, v2)] := Blk.sliceOf (t := 31) (l := [((A1, c1, v1) : VRow), (A2, c2, v2)]) hm1 h1 (by unfold maxLen; simp)
  have y2 : ∀ x ∈ ([(A1, c1, v1), (A2, c2, v2)] : List VRow), RowsOf I1 x.1 x.2.1 x.2.2 := fun x hx => by
    simp only [List.mem_cons, List.not_mem_nil, or_false] at hx
    rcases hx with rfl | rfl
    · exact s1.mono hI1
    · exact s2.mono hI1
  have z2 : ([(A1, c1, v1), (A2, c2, v2)] : List VRow).length = 2 := rfl
  generalize ([(A1, c1, v1), (A2, c2, v2)] : List VRow) = X at x2 y2 z2
  replace s0 := s0.mono hI1
  replace s1 := s1.mono hI1
  replace s2 := s2.mono hI1
  replace s3 := s3.mono hI1
  replace hL := hL.mono hI1
  replace s5 := s5.mono hI1
  refine Nx.p_loop (σ := Nat) (fun j => [(3, .slice A3 l3.length c3), (4, .int .i64 cell), (5, .slice A5 l5.length c5), (6, .pointer (some ⟨b6, 0, none⟩)), (7, .pointer (some ⟨b7, 0, none⟩)), (8, .pointer (some ⟨b8, 0, none⟩)), (59, .slice (some ⟨b59, 0, none⟩) 2 2), (60, .int .i64 ((2 : Nat) : Int)), (61, .int .i64 (j : Int))])
    (fun _ => [Blk b6 27 [.slice A0 l0.length c0], Blk b7 31 [.slice A1 v1.length c1], Blk b8 31 [.slice A2 v2.length c2], F]) (fun j => j ≤ 2) (fun j => 2 - j) 0 rfl (Nat.zero_le _) ⟨rfl, rfl, rfl, rfl, rfl, rfl, rfl, rfl, rfl, trivial⟩ (by (exact Ent.auto)) ?_
  intro j hj
  have hj : j ≤ 2 := hj
  by_cases hj2 : j < 2
  · have hrow := y2 _ (getD_memV (show j < X.length by omega))
    have hdx : ∀ (W : World) (R : List Res), Rds W I1 R ((ad (some (⟨b59, 0, none⟩ : Addr))).add (j * 1)) [vrowV (X.getD j default)] := fun W R => SliceOf.rds1 x2 (by omega)
    generalize X.getD j default = xi at hrow hdx
    obtain ⟨Ax, cx, xv⟩ := xi
    dsimp only at hrow
    replace hdx : ∀ (W : World) (R : List Res), Rds W I1 R ((ad (some (⟨b59, 0, none⟩ : Addr))).add (j * 1)) [.slice Ax xv.length cx] := hdx
    have hxl := hrow.outer.len
    repeat' first
      | ((with_reducible refine Nx.is_wp ?_); first | refine Nx.wo ?_ | refine Nx.zp (fun hc => ?_) (fun hc => ?_))
      | (refine Nx.zo ?_; first | refine Nx.opr rfl rfl ?_ | refine Nx.indexAddr_nat (A := some ⟨b59, 0, none⟩) (i := j) (sz := 1) rfl rfl rfl rfl rfl hj2 rfl ?_ | refine Nx.loads rfl rfl rfl rfl (hdx _ _) rfl ?_ | refine Nx.so ?_ | refine Nx.sb (fun bx => ?_) | refine Nx.sa (fun A2 c2 => ?_))
      | refine Nx.za ?_ | refine Nx.zr (fun hc => ?_) (fun hc => ?_)
      | refine Nx.zq ?_ | refine Nx.zu (fun hc => ?_) (fun hc => ?_)
      | refine Nx.zx ?_ | fail
    revert bx; intro b14
    refine Nx.p_loop (σ := Nat) (fun i => [(3, .slice A3 l3.length c3), (4, .int .i64 cell), (5, .slice A5 l5.length c5), (6, .pointer (some ⟨b6, 0, none⟩)), (7, .pointer (some ⟨b7, 0, none⟩)), (8, .pointer (some ⟨b8, 0, none⟩)), (14, .pointer (some ⟨b14, 0, none⟩)), (59, .slice (some ⟨b59, 0, none⟩) 2 2), (60, .int .i64 ((2 : Nat) : Int)), (61, .int .i64 (j : Int)), (67, .int .i64 xv.length), (68, .int .i64 (i : Int))])
      (fun _ => [Blk b14 31 [.slice Ax xv.length cx], Blk b6 27 [.slice A0 l0.length c0], Blk b7 31 [.slice A1 v1.length c1], Blk b8 31 [.slice A2 v2.length c2], F]) (fun i => i ≤ xv.length) (fun i => xv.length - i) 0 rfl (Nat.zero_le _) ⟨rfl, rfl, rfl, rfl, rfl, rfl, rfl, rfl, rfl, rfl, rfl, rfl, trivial⟩ (by (exact Ent.auto)) ?_
    intro i hi
    have hi : i ≤ xv.length := hi
    by_cases hix : i < xv.length
    case neg =>
      repeat' first
        | ((with_reducible refine Nx.is_wp ?_); first | refine Nx.wo ?_ | refine Nx.zp (fun hc => ?_) (fun hc => ?_))
        | (refine Nx.zo ?_; first | refine Nx.opr rfl rfl ?_ | refine Nx.so ?_ | refine Nx.sb (fun bx => ?_) | refine Nx.sa (fun A2 c2 => ?_))
        | refine Nx.za ?_ | refine Nx.zr (fun hc => ?_) (fun hc => ?_)
        | refine Nx.zq ?_ | refine Nx.zu (fun hc => ?_) (fun hc => ?_)
        | refine Nx.zx ?_ | fail
      exact Nx.again (j + 1) hj2 (by omega) ⟨rfl, rfl, rfl, rfl, rfl, rfl, rfl, rfl, rfl, trivial⟩ (by (exact Ent.auto))
    have hrd : ∀ (W : World) (R : List Res), Rd W I1 R ((ad Ax).add (i * 1)) (rowV (xv.getD i default)) := fun W R => hrow.outer.rd hix
    have hri := (hrow.at hix).len
    have hAx := hrow.outer.isSome (by omega)
    generalize xv.getD i default = q at hrd hri
    obtain ⟨G, cg, g⟩ := q
    dsimp only at hri
    replace hrd : ∀ (W : World) (R : List Res), Rd W I1 R ((ad Ax).add (i * 1)) (.slice G g.length cg) := hrd
    by_cases hg : g.length ≤ 40
    · repeat' first
        | ((with_reducible refine Nx.is_wp ?_); first | refine Nx.wo ?_ | refine Nx.zp (fun hc => ?_) (fun hc => ?_))
        | (refine Nx.zo ?_; first | refine Nx.opr rfl rfl ?_ | refine Nx.indexAddr_nat (A := Ax) (i := i) (sz := 1) rfl rfl rfl rfl rfl hix hAx ?_ | refine Nx.load rfl rfl rfl (hrd _ _) ?_ | refine Nx.so ?_ | refine Nx.sb (fun bx => ?_) | refine Nx.sa (fun A2 c2 => ?_))
        | refine Nx.za ?_ | refine Nx.zr (fun hc => ?_) (fun hc => ?_)
        | refine Nx.zq ?_ | refine Nx.zu (fun hc => ?_) (fun hc => ?_)
        | refine Nx.zx ?_ | fail
      exact Nx.again (i + 1) hix (by omega) ⟨rfl, rfl, rfl, rfl, rfl, rfl, rfl, rfl, rfl, rfl, rfl, rfl, trivial⟩ (by (exact Ent.auto))
    · repeat' first
        | ((with_reducible refine Nx.is_wp ?_); first | refine Nx.wo ?_ | refine Nx.zp (fun hc => ?_) (fun hc => ?_))
        | (refine Nx.zo ?_; first | refine Nx.opr rfl rfl ?_ | refine Nx.indexAddr_nat (A := Ax) (i := i) (sz := 1) rfl rfl rfl rfl rfl hix hAx ?_ | refine Nx.load rfl rfl rfl (hrd _ _) ?_ | refine Nx.callv rfl rfl rfl (by kernel_rfl) rfl (awake_spec _) ?_ | refine Nx.so ?_ | refine Nx.sb (fun bx => ?_) | refine Nx.sa (fun A2 c2 => ?_))
        | refine Nx.za ?_ | refine Nx.zr (fun hc => ?_) (fun hc => ?_)
        | refine Nx.zq ?_ | refine Nx.zu (fun hc => ?_) (fun hc => ?_)
        | refine Nx.zx ?_ | fail
      exact Nx.imm_le hI1 (Nx.ret_fn rfl [] ⟨rfl, rfl⟩ (by (exact Ent.auto)))
  repeat' first
    | ((with_reducible refine Nx.is_wp ?_); first | refine Nx.p_stopr 15 rfl ?_ | refine Nx.wo ?_ | refine Nx.zp (fun hc => ?_) (fun hc => ?_))
    | (refine Nx.zo ?_; first | refine Nx.opr rfl rfl ?_ | (refine Nx.call (Rpre := []) rfl rfl rfl (by kernel_rfl) rfl (New_codes A5 c5 l5 I1 s5) (Ent.refl _) ?_; rintro _ _ ⟨b, rfl, rfl⟩) | (refine Nx.call rfl rfl rfl (by kernel_rfl) rfl (Space_made b A5 c5 _ 0 I1 hL (Nat.zero_le _)) (by (exact Ent.auto)) ?_; rintro _ _ ⟨B, cs, s, e1, rfl, hs, he1, rfl⟩) | refine Nx.so ?_ | refine Nx.sb (fun bx => ?_) | refine Nx.sa (fun A2 c2 => ?_))
    | refine Nx.za ?_ | refine Nx.zr (fun hc => ?_) (fun hc => ?_)
    | refine Nx.zq ?_ | refine Nx.zu (fun hc => ?_) (fun hc => ?_)
    | refine Nx.zx ?_ | fail
  refine Nx.unstop ?_
  revert bx; intro b17
  refine Nx.ent (R' := [isR B cs s, Blk b17 27 [.slice B s.length cs], CodesR b A5 c5 (l5.take 400) e1, Blk b6 27 [.slice A0 l0.length c0], Blk b7 31 [.slice A1 v1.length c1], Blk b8 31 [.slice A2 v2.length c2], F]) (by (exact Ent.auto)) ?_
  refine Nx.freezeAt 0 rfl fun I2 m2 hI2 hm2 h2 => ?_
  have hz : Ints I2 B cs s := Vec.sliceOf hm2 h2
  replace s0 := s0.mono hI2
  replace s1 := s1.mono hI2
  replace s2 := s2.mono hI2
  replace s3 := s3.mono hI2
  replace hL := hL.mono hI2
  repeat' first
    | ((with_reducible refine Nx.is_wp ?_); first | refine Nx.wo ?_ | refine Nx.zp (fun hc => ?_) (fun hc => ?_))
    | (refine Nx.zo ?_; first | refine Nx.opr rfl rfl ?_ | refine Nx.so ?_ | refine Nx.sb (fun bx => ?_) | refine Nx.sa (fun A2 c2 => ?_))
    | refine Nx.za ?_ | refine Nx.zr (fun hc => ?_) (fun hc => ?_)
    | refine Nx.zq ?_ | refine Nx.zu (fun hc => ?_) (fun hc => ?_)
    | refine Nx.zx ?_ | fail
  refine Nx.p_pool (id := 15) rfl [0, 1, 3, 4] [2, 5] [8, 9] [8, 9] [⟨6, 18, 31, [.slice none 0 0]⟩, ⟨7, 19, 31, [.slice none 0 0]⟩] [Blk b17 27 [.slice B s.length cs]] 6 rfl rfl (by kernel_rfl) (by kernel_rfl) rfl (by decide) ?_ PanicOk.auto (by (exact Ent.auto)) ?_
  · intro p hp
    simp only [List.mem_cons, List.not_mem_nil, or_false] at hp
    rcases hp with rfl | rfl <;> exact ⟨⟨_, _, _, rfl⟩, rfl, rfl⟩
  repeat' first
    | ((with_reducible refine Nx.is_wp ?_); first | refine Nx.wo ?_ | refine Nx.zp (fun hc => ?_) (fun hc => ?_))
    | (refine Nx.zo ?_; first | refine Nx.opr rfl rfl ?_ | refine Nx.so ?_ | refine Nx.sb (fun bx => ?_) | refine Nx.sa (fun A2 c2 => ?_))
    | refine Nx.za ?_ | refine Nx.zr (fun hc => ?_) (fun hc => ?_)
    | refine Nx.zq ?_ | refine Nx.zu (fun hc => ?_) (fun hc => ?_)
    | refine Nx.zx ?_ | fail
  refine Nx.pool_in ?_
  refine Good.call rfl rfl rfl fun ex X => ?_
  refine Nx.call rfl rfl rfl (by kernel_rfl) rfl (View_made b A5 B c5 cs _ s e1 I2 hL he1 hz hs) (Rrest := [X, Blk b17 27 [.slice B s.length cs], Blk b6 27 [.slice A0 l0.length c0], Blk b7 31 [.slice A1 v1.length c1], Blk b8 31 [.slice A2 v2.length c2], F]) (by (exact Ent.auto)) ?_
  rintro _ R' ⟨Av, cv, v, e2, rfl, hwv, he2, rfl⟩
  refine Nx.pool_next (R1 := [ViewR Av cv v, CodesR b A5 c5 (l5.take 400) e2, Blk b17 27 [.slice B s.length cs], Blk b6 27 [.slice A0 l0.length c0], Blk b7 31 [.slice A1 v1.length c1], Blk b8 31 [.slice A2 v2.length c2], F]) (by (exact Ent.auto)) (fun w hw => hw.ent (by (exact Ent.auto))) ?_
  refine Good.call rfl rfl rfl fun ex X => ?_
  refine Nx.call rfl rfl rfl (by kernel_rfl) rfl (View_made b A5 B c5 cs _ s e2 I2 hL he2 hz hs) (Rrest := [X, ViewR Av cv v, Blk b17 27 [.slice B s.length cs], Blk b6 27 [.slice A0 l0.length c0], Blk b7 31 [.slice A1 v1.length c1], Blk b8 31 [.slice A2 v2.length c2], F]) (by (exact Ent.auto)) ?_
  rintro _ R' ⟨Aw, cw, vw, e3, rfl, hww, he3, rfl⟩
  refine Nx.pool_next (R1 := [ViewR Aw cw vw, ViewR Av cv v, CodesR b A5 c5 (l5.take 400) e3, Blk b17 27 [.slice B s.length cs], Blk b6 27 [.slice A0 l0.length c0], Blk b7 31 [.slice A1 v1.length c1], Blk b8 31 [.slice A2 v2.length c2], F]) (by (exact Ent.auto)) (fun w hw => hw.ent (by (exact Ent.auto))) ?_
  refine Good.done rfl fun bs hbs => ?_
  obtain ⟨b18, b19, rfl⟩ : ∃ b18 b19, bs = [b18, b19] := by
    match bs, hbs with
    | [b5, b6], _ => exact ⟨b5, b6, rfl⟩
  refine Nx.unfoldAt 0 rfl ?_
  iterate 2
    refine Nx.m_loud rfl rfl rfl ?_
    refine Nx.so ?_
    refine Nx.mix_S (by (exact Ent.auto)) ?_
  repeat' first
    | ((with_reducible refine Nx.is_wp ?_); first | refine Nx.p_stopr 16 rfl ?_ | refine Nx.wo ?_ | refine Nx.zp (fun hc => ?_) (fun hc => ?_))
    | (refine Nx.zo ?_; first | refine Nx.opr rfl rfl ?_ | refine Nx.so ?_ | refine Nx.sb (fun bx => ?_) | refine Nx.sa (fun A2 c2 => ?_))
    | refine Nx.za ?_ | refine Nx.zr (fun hc => ?_) (fun hc => ?_)
    | refine Nx.zq ?_ | refine Nx.zu (fun hc => ?_) (fun hc => ?_)
    | refine Nx.zx ?_ | fail
  refine Nx.unstop ?_
  refine Nx.ent (R' := [ViewR Aw cw vw, ViewR Av cv v, Blk b18 31 [.slice Av v.length cv], Blk b19 31 [.slice Aw vw.length cw], Blk b17 27 [.slice B s.length cs], CodesR b A5 c5 (l5.take 400) e3, Blk b6 27 [.slice A0 l0.length c0], Blk b7 31 [.slice A1 v1.length c1], Blk b8 31 [.slice A2 v2.length c2], F]) (by (exact Ent.auto)) ?_
  refine Nx.freezeAt 0 rfl fun I3 m3 hI3 hm3 h3 => ?_
  refine Nx.freezeAt 0 rfl fun I4 m4 hI4 hm4 h4 => ?_
  have hvw : RowsOf I4 Aw cw vw := ViewR.rows (hm3.trans hI4) h3
  have hv : RowsOf I4 Av cv v := ViewR.rows hm4 h4
  replace hz := (hz.mono hI3).mono hI4
  replace s0 := (s0.mono hI3).mono hI4
  replace s1 := (s1.mono hI3).mono hI4
  replace s2 := (s2.mono hI3).mono hI4
  replace s3 := (s3.mono hI3).mono hI4
  replace hL := (hL.mono hI3).mono hI4
  repeat' first
    | ((with_reducible refine Nx.is_wp ?_); first | refine Nx.p_stopr 17 rfl ?_ | refine Nx.wo ?_ | refine Nx.zp (fun hc => ?_) (fun hc => ?_))
    | (refine Nx.zo ?_; first | refine Nx.opr rfl rfl ?_ | (refine Nx.call rfl rfl rfl (by kernel_rfl) rfl (Cells_spec b A5 B c5 cs _ s e3 9 I4 hL he3 hz hs (by omega)) (by (exact Ent.auto)) ?_; rintro _ _ ⟨bt, t, e4, rfl, htl, hte, he4, rfl⟩) | refine Nx.so ?_ | refine Nx.sb (fun bx => ?_) | refine Nx.sa (fun A2 c2 => ?_))
    | refine Nx.za ?_ | refine Nx.zr (fun hc => ?_) (fun hc => ?_)
    | refine Nx.zq ?_ | refine Nx.zu (fun hc => ?_) (fun hc => ?_)
    | refine Nx.zx ?_ | fail
  refine Nx.unstop ?_
  refine Nx.ent (R' := [isR (some ⟨bt, 0, none⟩) t.length t, Blk b18 31 [.slice Av v.length cv], Blk b19 31 [.slice Aw vw.length cw], Blk b17 27 [.slice B s.length cs], Blk b6 27 [.slice A0 l0.length c0], Blk b7 31 [.slice A1 v1.length c1], Blk b8 31 [.slice A2 v2.length c2], F]) (by (exact Ent.auto)) ?_
  refine Nx.freezeAt 0 rfl fun I5 m5 hI5 hm5 h5 => ?_
  have ht : Ints I5 (some ⟨bt, 0, none⟩) t.length t := Vec.sliceOf hm5 h5
  replace hz := hz.mono hI5
  replace hv := hv.mono hI5
  replace hvw := hvw.mono hI5
  replace s0 := s0.mono hI5
  replace s1 := s1.mono hI5
  replace s2 := s2.mono hI5
  replace s3 := s3.mono hI5
  have hle5 := hI1.trans (hI2.trans (hI3.trans (hI4.trans hI5)))
  repeat' first
    | ((with_reducible refine Nx.is_wp ?_); first | refine Nx.wo ?_ | refine Nx.zp (fun hc => ?_) (fun hc => ?_))
    | (refine Nx.zo ?_; first | refine Nx.opr rfl rfl ?_ | refine Nx.so ?_ | refine Nx.sb (fun bx => ?_) | refine Nx.sa (fun A2 c2 => ?_))
    | refine Nx.za ?_ | refine Nx.zr (fun hc => ?_) (fun hc => ?_)
    | refine Nx.zq ?_ | refine Nx.zu (fun hc => ?_) (fun hc => ?_)
    | refine Nx.zx ?_ | fail
  revert bx; intro b96
  refine Nx.freezeAt 0 rfl fun I6 m6 hI6 hm6 h6 => ?_
  have xs2 : SliceOf rowV I6 (some ⟨b96, 0, none⟩) 2 [(A0, c0, l0), (B, cs, s)] := Blk.sliceOf (t := 27) (l := [((A0, c0, l0) : Row), (B, cs, s)]) hm6 h6 (by unfold maxLen; simp)
  have ys2 : ∀ x ∈ ([(A0, c0, l0), (B, cs, s)] : List Row), Ints I6 x.1 x.2.1 x.2.2 := fun x hx => by
    simp only [List.mem_cons, List.not_mem_nil, or_false] at hx
    rcases hx with rfl | rfl
    · exact s0.mono hI6
    · exact hz.mono hI6
  have zs2 : ([(A0, c0, l0), (B, cs, s)] : List Row).length = 2 := rfl
  generalize ([(A0, c0, l0), (B, cs, s)] : List Row) = Y at xs2 ys2 zs2
  replace hv := hv.mono hI6
  replace hvw := hvw.mono hI6
  replace s1 := s1.mono hI6
  replace s2 := s2.mono hI6
  replace s3 := s3.mono hI6
  replace ht := ht.mono hI6
  have hle6 := hle5.trans hI6
  refine Nx.p_loop (σ := Nat) (fun j => [(3, .slice A3 l3.length c3), (4, .int .i64 cell), (7, .pointer (some ⟨b7, 0, none⟩)), (8, .pointer (some ⟨b8, 0, none⟩)), (18, .pointer (some ⟨b18, 0, none⟩)), (19, .pointer (some ⟨b19, 0, none⟩)), (20, .slice (some ⟨bt, 0, none⟩) t.length t.length), (96, .slice (some ⟨b96, 0, none⟩) 2 2), (97, .int .i64 ((2 : Nat) : Int)), (98, .int .i64 (j : Int))])
    (fun _ => [Blk b18 31 [.slice Av v.length cv], Blk b19 31 [.slice Aw vw.length cw], Blk b7 31 [.slice A1 v1.length c1], Blk b8 31 [.slice A2 v2.length c2], F]) (fun j => j ≤ 2) (fun j => 2 - j) 0 rfl (Nat.zero_le _) ⟨rfl, rfl, rfl, rfl, rfl, rfl, rfl, rfl, rfl, rfl, trivial⟩ (by (exact Ent.auto)) ?_
  intro j hj
  have hj : j ≤ 2 := hj
  by_cases hj2 : j < 2
  case neg =>
    repeat' first
      | ((with_reducible refine Nx.is_wp ?_); first | refine Nx.wo ?_ | refine Nx.zp (fun hc => ?_) (fun hc => ?_))
      | (refine Nx.zo ?_; first | refine Nx.opr rfl rfl ?_ | refine Nx.callv rfl rfl rfl (by kernel_rfl) rfl (awake_spec _) ?_ | refine Nx.so ?_ | refine Nx.sb (fun bx => ?_) | refine Nx.sa (fun A2 c2 => ?_))
      | refine Nx.za ?_ | refine Nx.zr (fun hc => ?_) (fun hc => ?_)
      | refine Nx.zq ?_ | refine Nx.zu (fun hc => ?_) (fun hc => ?_)
      | refine Nx.zx ?_ | fail
    exact Nx.imm_le hle6 (Nx.ret_fn rfl [] ⟨rfl, rfl⟩ (by (exact Ent.auto)))
  have hq := ys2 _ (row_mem (show j < Y.length by omega))
  have hdq : ∀ (W : World) (R : List Res), Rds W I6 R ((ad (some (⟨b96, 0, none⟩ : Addr))).add (j * 1)) [rowV (Y.getD j default)] := fun W R => SliceOf.rds1 xs2 (by omega)
  generalize Y.getD j default = q at hq hdq
  obtain ⟨Aq, cq, lq⟩ := q
  dsimp only at hq
  replace hdq : ∀ (W : World) (R : List Res), Rds W I6 R ((ad (some (⟨b96, 0, none⟩ : Addr))).add (j * 1)) [.slice Aq lq.length cq] := hdq
  have hX1 := IndexA_spec Aq A3 cq c3 lq l3 I6 hq s3
  have hX2 := RIndexA_spec Aq A3 cq c3 lq l3 I6 hq s3
  have hA1 := AtA_spec Aq cq lq cell I6 hq
  have hA2 := RAtA_spec Aq cq lq cell I6 hq
  generalize idxA lq l3 = ix at hX1 hX2
  generalize atA lq cell = ax at hA1 hA2
  obtain ⟨ix, ie⟩ := ix
  obtain ⟨ax, ae⟩ := ax
  dsimp only at hX1 hX2 hA1 hA2
  repeat' first
    | ((with_reducible refine Nx.is_wp ?_); first | refine Nx.p_stopr 24 rfl ?_ | refine Nx.wo ?_ | refine Nx.zp (fun hc => ?_) (fun hc => ?_))
    | (refine Nx.zo ?_; first | refine Nx.opr rfl rfl ?_ | refine Nx.indexAddr_nat (A := some ⟨b96, 0, none⟩) (i := j) (sz := 1) rfl rfl rfl rfl rfl hj2 rfl ?_ | refine Nx.loads rfl rfl rfl rfl (hdq _ _) rfl ?_ | refine Nx.callv rfl rfl rfl (by kernel_rfl) rfl hX1 ?_ | refine Nx.callv rfl rfl rfl (by kernel_rfl) rfl hX2 ?_ | (refine Nx.call (Rpre := []) rfl rfl rfl (by kernel_rfl) rfl hA1 (Ent.refl _) ?_; rintro _ _ ⟨B1, d1, rfl, rfl⟩) | (refine Nx.call (Rpre := []) rfl rfl rfl (by kernel_rfl) rfl hA2 (Ent.refl _) ?_; rintro _ _ ⟨B2, d2, rfl, rfl⟩) | refine Nx.so ?_ | refine Nx.sb (fun bx => ?_) | refine Nx.sa (fun A2 c2 => ?_))
    | refine Nx.za ?_ | refine Nx.zr (fun hc => ?_) (fun hc => ?_)
    | refine Nx.zq ?_ | refine Nx.zu (fun hc => ?_) (fun hc => ?_)
    | refine Nx.zx ?_ | fail
  refine Nx.unstop ?_
  revert bx; intro b22
  refine Nx.ent (R' := [isR B2 d2 ax, isR B1 d1 ax, Blk b22 27 [.slice Aq lq.length cq], Blk b18 31 [.slice Av v.length cv], Blk b19 31 [.slice Aw vw.length cw], Blk b7 31 [.slice A1 v1.length c1], Blk b8 31 [.slice A2 v2.length c2], F]) (by (exact Ent.auto)) ?_
  refine Nx.freezeAt 0 rfl fun I7 m7 hI7 hm7 h7 => ?_
  refine Nx.freezeAt 0 rfl fun I8 m8 hI8 hm8 h8 => ?_
  have r2 : Ints I8 B2 d2 ax := Vec.sliceOf (hm7.trans hI8) h7
  have r1 : Ints I8 B1 d1 ax := Vec.sliceOf hm8 h8
  have hle8 := hI7.trans hI8
  replace hq := hq.mono hle8
  replace hv := hv.mono hle8
  replace hvw := hvw.mono hle8
  replace s1 := s1.mono hle8
  replace s2 := s2.mono hle8
  replace s3 := s3.mono hle8
  replace ht := ht.mono hle8
  have i12 := Ints_spec B1 B2 d1 d2 ax ax I8 r1 r2
  rw [decide_eq_true rfl] at i12
  have hC1 := CheckA_spec Aq cq lq I8 hq
  have hC2 := RCheckA_spec Aq cq lq I8 hq
  have hN1 := CountA_spec Aq cq lq I8 hq
  have hN2 := RCountA_spec Aq cq lq I8 hq
  generalize szE lq = ce at hC1 hC2
  generalize cntA lq = cn at hN1 hN2
  repeat' first
    | ((with_reducible refine Nx.is_wp ?_); first | refine Nx.wo ?_ | refine Nx.p_draw (id := 24) rfl [0, 2, 1, 3, 4, 5, 6, 8, 7, 9, 10, 11, 12, 13, 14, 15, 16, 17, 18, 19, 20, 21, 22, 23, 24, 25, 26, 27, 28, 29, 30, 31, 32] [1, 3, 7, 9, 25] _ rfl rfl (by kernel_rfl) (by kernel_rfl) rfl PanicOk.auto (Ent.refl _) ?_ | refine Nx.p_draw (id := 29) rfl [0, 1, 2, 3, 4, 5, 6, 7, 8, 9, 10, 11, 12, 13, 14] [4, 11, 12] _ rfl rfl (by kernel_rfl) (by kernel_rfl) rfl PanicOk.auto (Ent.refl _) ?_ | refine Nx.p_draw (id := 34) rfl [0, 1, 2, 4, 5, 6, 3, 7, 8] [3, 7] _ rfl rfl (by kernel_rfl) (by kernel_rfl) rfl PanicOk.auto (Ent.refl _) ?_ | refine Nx.zp (fun hc => ?_) (fun hc => ?_))
    | (refine Nx.zo ?_; first | refine Nx.opr rfl rfl ?_ | refine Nx.callv rfl rfl rfl (by kernel_rfl) rfl hC1 ?_ | refine Nx.callv rfl rfl rfl (by kernel_rfl) rfl hC2 ?_ | refine Nx.callv rfl rfl rfl (by kernel_rfl) rfl hN1 ?_ | refine Nx.callv rfl rfl rfl (by kernel_rfl) rfl hN2 ?_ | refine Nx.callv rfl rfl rfl (by kernel_rfl) rfl i12 ?_ | refine Nx.so ?_ | refine Nx.sb (fun bx => ?_) | refine Nx.sa (fun A2 c2 => ?_))
    | refine Nx.za ?_ | refine Nx.zr (fun hc => ?_) (fun hc => ?_)
    | refine Nx.zq ?_ | refine Nx.zu (fun hc => ?_) (fun hc => ?_)
    | refine Nx.zx ?_ | fail
  revert bx; intro b163
  refine Nx.freezeAt 0 rfl fun I9 m9 hI9 hm9 h9 => ?_
  have x4 : SliceOf vrowV I9 (some ⟨b163, 0, none⟩) 4 [(A1, c1, v1), (A2, c2, v2), (Av, cv, v), (Aw, cw, vw)] := Blk.sliceOf (t := 31) (l := [((A1, c1, v1) : VRow), (A2, c2, v2), (Av, cv, v), (Aw, cw, vw)]) hm9 h9 (by unfold maxLen; simp)
  replace hq := hq.mono hI9
  replace hv := hv.mono hI9
  replace hvw := hvw.mono hI9
  replace s1 := s1.mono hI9
  replace s2 := s2.mono hI9
  replace s3 := s3.mono hI9
  replace ht := ht.mono hI9
  have y4 : ∀ x ∈ ([(A1, c1, v1), (A2, c2, v2), (Av, cv, v), (Aw, cw, vw)] : List VRow), RowsOf I9 x.1 x.2.1 x.2.2 := fun x hx => by
    simp only [List.mem_cons, List.not_mem_nil, or_false] at hx
    rcases hx with rfl | rfl | rfl | rfl
    · exact s1
    · exact s2
    · exact hv
    · exact hvw
  have z4 : ([(A1, c1, v1), (A2, c2, v2), (Av, cv, v), (Aw, cw, vw)] : List VRow).length = 4 := rfl
  generalize ([(A1, c1, v1), (A2, c2, v2), (Av, cv, v), (Aw, cw, vw)] : List VRow) = X4 at x4 y4 z4
  have hle9 := hle8.trans hI9
  have hMd := ModC_spec cell 9 (by omega) I9
  generalize cell % 9 = c9 at hMd
  refine Nx.p_loop (σ := Nat) (fun i => [(3, .slice A3 l3.length c3), (4, .int .i64 cell), (7, .pointer (some ⟨b7, 0, none⟩)), (8, .pointer (some ⟨b8, 0, none⟩)), (18, .pointer (some ⟨b18, 0, none⟩)), (19, .pointer (some ⟨b19, 0, none⟩)), (20, .slice (some ⟨bt, 0, none⟩) t.length t.length), (22, .pointer (some ⟨b22, 0, none⟩)), (96, .slice (some ⟨b96, 0, none⟩) 2 2), (97, .int .i64 ((2 : Nat) : Int)), (98, .int .i64 (j : Int)), (163, .slice (some ⟨b163, 0, none⟩) 4 4), (164, .int .i64 ((4 : Nat) : Int)), (165, .int .i64 (i : Int))])
    (fun _ => [Blk b22 27 [.slice Aq lq.length cq], Blk b18 31 [.slice Av v.length cv], Blk b19 31 [.slice Aw vw.length cw], Blk b7 31 [.slice A1 v1.length c1], Blk b8 31 [.slice A2 v2.length c2], F]) (fun i => i ≤ 4) (fun i => 4 - i) 0 rfl (Nat.zero_le _) ⟨rfl, rfl, rfl, rfl, rfl, rfl, rfl, rfl, rfl, rfl, rfl, rfl, rfl, rfl, trivial⟩ (by (exact Ent.auto)) ?_
  intro i hi
  have hi : i ≤ 4 := hi
  by_cases hi4 : i < 4
  case neg =>
    repeat' first
      | ((with_reducible refine Nx.is_wp ?_); first | refine Nx.wo ?_ | refine Nx.zp (fun hc => ?_) (fun hc => ?_))
      | (refine Nx.zo ?_; first | refine Nx.opr rfl rfl ?_ | refine Nx.so ?_ | refine Nx.sb (fun bx => ?_) | refine Nx.sa (fun A2 c2 => ?_))
      | refine Nx.za ?_ | refine Nx.zr (fun hc => ?_) (fun hc => ?_)
      | refine Nx.zq ?_ | refine Nx.zu (fun hc => ?_) (fun hc => ?_)
      | refine Nx.zx ?_ | fail
    exact Nx.imm_le hle9 (Nx.again (j + 1) hj2 (by omega) ⟨rfl, rfl, rfl, rfl, rfl, rfl, rfl, rfl, rfl, rfl, trivial⟩ (by (exact Ent.auto)))
  have hrow := y4 _ (getD_memV (show i < X4.length by omega))
  have hdx : ∀ (W : World) (R : List Res), Rds W I9 R ((ad (some (⟨b163, 0, none⟩ : Addr))).add (i * 1)) [vrowV (X4.getD i default)] := fun W R => SliceOf.rds1 x4 (by omega)
  generalize X4.getD i default = xi at hrow hdx
  obtain ⟨Ax, cx, xv⟩ := xi
  dsimp only at hrow
  replace hdx : ∀ (W : World) (R : List Res), Rds W I9 R ((ad (some (⟨b163, 0, none⟩ : Addr))).add (i * 1)) [.slice Ax xv.length cx] := hdx
  have hV1 := view_spec Aq Ax A3 cq cx c3 lq l3 xv cell I9 hq hrow s3
  have hV2 := view_spec Aq Ax (some ⟨bt, 0, none⟩) cq cx t.length lq t xv c9 I9 hq hrow ht
  repeat' first
    | ((with_reducible refine Nx.is_wp ?_); first | refine Nx.wo ?_ | refine Nx.p_draw (id := 24) rfl [0, 2, 1, 3, 4, 5, 6, 8, 7, 9, 10, 11, 12, 13, 14, 15, 16, 17, 18, 19, 20, 21, 22, 23, 24, 25, 26, 27, 28, 29, 30, 31, 32] [1, 3, 7, 9, 25] _ rfl rfl (by kernel_rfl) (by kernel_rfl) rfl PanicOk.auto (Ent.refl _) ?_ | refine Nx.p_draw (id := 29) rfl [0, 1, 2, 3, 4, 5, 6, 7, 8, 9, 10, 11, 12, 13, 14] [4, 11, 12] _ rfl rfl (by kernel_rfl) (by kernel_rfl) rfl PanicOk.auto (Ent.refl _) ?_ | refine Nx.p_draw (id := 34) rfl [0, 1, 2, 4, 5, 6, 3, 7, 8] [3, 7] _ rfl rfl (by kernel_rfl) (by kernel_rfl) rfl PanicOk.auto (Ent.refl _) ?_ | refine Nx.zp (fun hc => ?_) (fun hc => ?_))
    | (refine Nx.zo ?_; first | refine Nx.opr rfl rfl ?_ | refine Nx.indexAddr_nat (A := some ⟨b163, 0, none⟩) (i := i) (sz := 1) rfl rfl rfl rfl rfl hi4 rfl ?_ | refine Nx.loads rfl rfl rfl rfl (hdx _ _) rfl ?_ | refine Nx.callv rfl rfl rfl (by kernel_rfl) rfl hV1 ?_ | refine Nx.callv rfl rfl rfl (by kernel_rfl) rfl hMd ?_ | refine Nx.callv rfl rfl rfl (by kernel_rfl) rfl hV2 ?_ | refine Nx.so ?_ | refine Nx.sb (fun bx => ?_) | refine Nx.sa (fun A2 c2 => ?_))
    | refine Nx.za ?_ | refine Nx.zr (fun hc => ?_) (fun hc => ?_)
    | refine Nx.zq ?_ | refine Nx.zu (fun hc => ?_) (fun hc => ?_)
    | refine Nx.zx ?_ | fail
  rename_i b32
  revert bx; intro b187
  refine Nx.freezeAt 0 rfl fun I10 m10 hI10 hm10 h10 => ?_
  have x3 : SliceOf vrowV I10 (some ⟨b187, 0, none⟩) 3 [(A1, c1, v1), (Av, cv, v), (Aw, cw, vw)] := Blk.sliceOf (t := 31) (l := [((A1, c1, v1) : VRow), (Av, cv, v), (Aw, cw, vw)]) hm10 h10 (by unfold maxLen; simp)
  have y3 : ∀ x ∈ ([(A1, c1, v1), (Av, cv, v), (Aw, cw, vw)] : List VRow), RowsOf I10 x.1 x.2.1 x.2.2 := fun x hx => by
    simp only [List.mem_cons, List.not_mem_nil, or_false] at hx
    rcases hx with rfl | rfl | rfl
    · exact s1.mono hI10
    · exact hv.mono hI10
    · exact hvw.mono hI10
  have z3 : ([(A1, c1, v1), (Av, cv, v), (Aw, cw, vw)] : List VRow).length = 3 := rfl
  generalize ([(A1, c1, v1), (Av, cv, v), (Aw, cw, vw)] : List VRow) = X3 at x3 y3 z3
  have hq10 := hq.mono hI10
  have hrow10 := hrow.mono hI10
  refine Nx.p_loop (σ := Nat) (fun k => [(3, .slice A3 l3.length c3), (4, .int .i64 cell), (7, .pointer (some ⟨b7, 0, none⟩)), (8, .pointer (some ⟨b8, 0, none⟩)), (18, .pointer (some ⟨b18, 0, none⟩)), (19, .pointer (some ⟨b19, 0, none⟩)), (20, .slice (some ⟨bt, 0, none⟩) t.length t.length), (22, .pointer (some ⟨b22, 0, none⟩)), (32, .pointer (some ⟨b32, 0, none⟩)), (96, .slice (some ⟨b96, 0, none⟩) 2 2), (97, .int .i64 ((2 : Nat) : Int)), (98, .int .i64 (j : Int)), (163, .slice (some ⟨b163, 0, none⟩) 4 4), (164, .int .i64 ((4 : Nat) : Int)), (165, .int .i64 (i : Int)), (187, .slice (some ⟨b187, 0, none⟩) 3 3), (188, .int .i64 ((3 : Nat) : Int)), (189, .int .i64 (k : Int))])
    (fun _ => [Blk b32 31 [.slice Ax xv.length cx], Blk b22 27 [.slice Aq lq.length cq], Blk b18 31 [.slice Av v.length cv], Blk b19 31 [.slice Aw vw.length cw], Blk b7 31 [.slice A1 v1.length c1], Blk b8 31 [.slice A2 v2.length c2], F]) (fun k => k ≤ 3) (fun k => 3 - k) 0 rfl (Nat.zero_le _) ⟨rfl, rfl, rfl, rfl, rfl, rfl, rfl, rfl, rfl, rfl, rfl, rfl, rfl, rfl, rfl, rfl, rfl, rfl, trivial⟩ (by (exact Ent.auto)) ?_
  intro k hk
  have hk : k ≤ 3 := hk
  by_cases hk3 : k < 3
  case neg =>
    repeat' first
      | ((with_reducible refine Nx.is_wp ?_); first | refine Nx.wo ?_ | refine Nx.zp (fun hc => ?_) (fun hc => ?_))
      | (refine Nx.zo ?_; first | refine Nx.opr rfl rfl ?_ | refine Nx.so ?_ | refine Nx.sb (fun bx => ?_) | refine Nx.sa (fun A2 c2 => ?_))
      | refine Nx.za ?_ | refine Nx.zr (fun hc => ?_) (fun hc => ?_)
      | refine Nx.zq ?_ | refine Nx.zu (fun hc => ?_) (fun hc => ?_)
      | refine Nx.zx ?_ | fail
    exact Nx.imm_le hI10 (Nx.again (i + 1) hi4 (by omega) ⟨rfl, rfl, rfl, rfl, rfl, rfl, rfl, rfl, rfl, rfl, rfl, rfl, rfl, rfl, trivial⟩ (by (exact Ent.auto)))
  have hrow3 := y3 _ (getD_memV (show k < X3.length by omega))
  have hdy : ∀ (W : World) (R : List Res), Rds W I10 R ((ad (some (⟨b187, 0, none⟩ : Addr))).add (k * 1)) [vrowV (X3.getD k default)] := fun W R => SliceOf.rds1 x3 (by omega)
  generalize X3.getD k default = yi at hrow3 hdy
  obtain ⟨Ay, cy, yv⟩ := yi
  dsimp only at hrow3
  replace hdy : ∀ (W : World) (R : List Res), Rds W I10 R ((ad (some (⟨b187, 0, none⟩ : Addr))).add (k * 1)) [.slice Ay yv.length cy] := hdy
  have hF1 := FinerA_spec Aq Ax Ay cq cx cy lq xv yv I10 hq10 hrow10 hrow3
  have hF2 := RFinerA_spec Aq Ax Ay cq cx cy lq xv yv I10 hq10 hrow10 hrow3
  generalize finA lq xv yv = fb at hF1 hF2
  cases fb
  all_goals
    repeat' first
      | ((with_reducible refine Nx.is_wp ?_); first | refine Nx.wo ?_ | refine Nx.p_draw (id := 24) rfl [0, 2, 1, 3, 4, 5, 6, 8, 7, 9, 10, 11, 12, 13, 14, 15, 16, 17, 18, 19, 20, 21, 22, 23, 24, 25, 26, 27, 28, 29, 30, 31, 32] [1, 3, 7, 9, 25] _ rfl rfl (by kernel_rfl) (by kernel_rfl) rfl PanicOk.auto (Ent.refl _) ?_ | refine Nx.p_draw (id := 29) rfl [0, 1, 2, 3, 4, 5, 6, 7, 8, 9, 10, 11, 12, 13, 14] [4, 11, 12] _ rfl rfl (by kernel_rfl) (by kernel_rfl) rfl PanicOk.auto (Ent.refl _) ?_ | refine Nx.p_draw (id := 34) rfl [0, 1, 2, 4, 5, 6, 3, 7, 8] [3, 7] _ rfl rfl (by kernel_rfl) (by kernel_rfl) rfl PanicOk.auto (Ent.refl _) ?_ | refine Nx.zp (fun hc => ?_) (fun hc => ?_))
      | (refine Nx.zo ?_; first | refine Nx.opr rfl rfl ?_ | refine Nx.indexAddr_nat (A := some ⟨b187, 0, none⟩) (i := k) (sz := 1) rfl rfl rfl rfl rfl hk3 rfl ?_ | refine Nx.loads rfl rfl rfl rfl (hdy _ _) rfl ?_ | refine Nx.callv rfl rfl rfl (by kernel_rfl) rfl hF1 ?_ | refine Nx.callv rfl rfl rfl (by kernel_rfl) rfl hF2 ?_ | refine Nx.so ?_ | refine Nx.sb (fun bx => ?_) | refine Nx.sa (fun A2 c2 => ?_))
      | refine Nx.za ?_ | refine Nx.zr (fun hc => ?_) (fun hc => ?_)
      | refine Nx.zq ?_ | refine Nx.zu (fun hc => ?_) (fun hc => ?_)
      | refine Nx.zx ?_ | fail
    exact Nx.again (k + 1) hk3 (by omega) ⟨rfl, rfl, rfl, rfl, rfl, rfl, rfl, rfl, rfl, rfl, rfl, rfl, rfl, rfl, rfl, rfl, rfl, rfl, trivial⟩ (by (exact Ent.auto))
end Go.Proofs.YtpmlehplbobjmaaDoor
/- Contracts of functions of the given program, and lemmas about plain lists and numbers: what the laws of this seat lean on. -/
namespace Go.Proofs.YtpmlehplbobjmaaDoor
open Go.Eng
abbrev laid3 : List (String × DataW Unit) := [( "math/bits.deBruijn32tab", Rows.laid_math_bits_deBruijn32tab), ("math/bits.deBruijn64tab", Rows.laid_math_bits_deBruijn64tab), ("internal/strconv.uint64pow10", Rows.laid_internal_strconv_uint64pow10)]
def tab32 : List Int := [0, 1, 28, 2, 29, 14, 24, 3, 30, 22, 20, 15, 25, 17, 4, 8, 31, 27, 13, 23, 21, 19, 16, 7, 26, 12, 18, 6, 11, 5, 10, 9]
def setBlk (cs : List Value) : Obj → Obj
  | .cells _ t frozen => .cells cs.toArray t frozen
  | o => o
/-- The settled world, the three tables holding what their initialisers lay: the witness. -/
noncomputable def laidWorld (os : Os) : World :=
  { World.holding Tryd.prog os ⟨#[], #[], []⟩ with heap := (((World.holding Tryd.prog os ⟨#[], #[], []⟩).heap.modify 2 (setBlk (Lib.deBruijn64tab.map fun z : Nat => Value.int .u8 z))).modify 0 (setBlk (Lib.pow10Tab.map fun z => Value.int .u64 z))).modify 1 (setBlk (tab32.map fun z => Value.int .u8 z)) }
theorem laidWorld_met (os : Os) (args : Array Value) : laidMetH Tryd.prog laid3 ((laidWorld os).forCall (fun _ _ => 0) ⟨#[], args, []⟩).memory :=
  laidMetH_of_parts (laidMet_of_run' 8 (by kernel_rfl) (by kernel_rfl)) (by kernel_rfl)
theorem tab_of {W : World} (_ : laidMetH Tryd.prog laid3 W) : True := trivial
theorem ten_of {W : World} (_ : laidMetH Tryd.prog laid3 W) : True := trivial
end Go.Proofs.YtpmlehplbobjmaaDoor
