/- Contracts of functions of the given program, and lemmas about plain lists and numbers: what the laws of this seat lean on. -/
import Derived.Laws.MakeOwn
import Derived.Laws.CopyRow
import Derived.Shelf.Bits.Mul64
import Derived.Test.YtjnhoemgceghlaaGreatTr5
namespace Go.Proofs.YtjnhoemgceghlaaGreat
open Go.Eng Go.Sol
attribute [local irreducible] opK wpList Code.wp Exit.then Exit.inBlock fnPost bodyPost Nx Calls Oper.wp Rd Rds Wr Ent Stars Blk Again Vec FnSpec wpMix QRun Stop Upto wpAt
/-! Lists of equations that lie in memory -/
abbrev EqR := Row × Int
def eqC (q : EqR) : List Value := [.slice q.1.1 q.1.2.2.length q.1.2.1, .int .i64 q.2]
structure Eqs (I : PH) (A : Option Addr) (c : Nat) (l : List EqR) : Prop where
  outer : SliceN eqC 2 I A c l
  inner : ∀ q ∈ l, Ints I q.1.1 q.1.2.1 q.1.2.2
theorem Eqs.mono {I I' : PH} {A : Option Addr} {c : Nat} {l : List EqR} (hle : PH.le I I') (h : Eqs I A c l) : Eqs I' A c l := ⟨h.outer.mono hle, fun q hq => (h.inner q hq).mono hle⟩
theorem Eqs.len {I : PH} {A : Option Addr} {c : Nat} {l : List EqR} (h : Eqs I A c l) : (l.length : Int) ≤ 9223372036854775807 := h.outer.len
theorem getD_memQ {l : List EqR} {k : Nat} (h : k < l.length) : l.getD k default ∈ l := by rw [List.getD_eq_getElem?_getD, List.getElem?_eq_getElem h]; exact List.getElem_mem _
theorem take_snocQ {l : List EqR} {k : Nat} (h : k < l.length) : l.take (k + 1) = l.take k ++ [l.getD k default] := by rw [List.take_succ_eq_append_getElem h, List.getD_eq_getElem?_getD, List.getElem?_eq_getElem h]; rfl
theorem take_snocJ {l : List Int} {k : Nat} (h : k < l.length) : l.take (k + 1) = l.take k ++ [l.getD k default] := by rw [List.take_succ_eq_append_getElem h, List.getD_eq_getElem?_getD, List.getElem?_eq_getElem h]; rfl
theorem eqC_len (q : EqR) : (eqC q).length = 2 := rfl
structure GoodE (n : Nat) (q : EqR) : Prop where
  ne : q.1.2.2 ≠ []
  val : 0 ≤ q.2 ∧ q.2 ≤ 1000000
  asc : q.1.2.2.Pairwise (· < ·)
  lt : ∀ x ∈ q.1.2.2, 0 ≤ x ∧ x < n
def eqn (q : EqR) : Eqn := (q.1.2.2.map Int.toNat, q.2)
def eqns (l : List EqR) : List Eqn := l.map eqn
def allC (l : List EqR) : List Int := l.flatMap fun q => q.1.2.2
theorem allC_snoc {l : List EqR} {k : Nat} (h : k < l.length) : allC (l.take (k + 1)) = allC (l.take k) ++ (l.getD k default).1.2.2 := by unfold allC; rw [take_snocQ h, List.flatMap_append]; simp
theorem allC_le {l : List EqR} (k : Nat) : (allC (l.take k)).length ≤ (allC l).length := by
  have : allC l = allC (l.take k) ++ allC (l.drop k) := by unfold allC; rw [← List.flatMap_append, List.take_append_drop]
  rw [this, List.length_append]; omega
theorem allC_le1 {l : List EqR} {k : Nat} (h : k < l.length) : (allC (l.take k)).length + (l.getD k default).1.2.2.length ≤ (allC l).length := by
  have := allC_le (l := l) (k + 1)
  rw [allC_snoc h, List.length_append] at this
  exact this
/-- The cells that occur, ascending. -/
def touch (n : Nat) (L : List Eqn) : List Nat := (List.range n).filter fun c => L.any fun q => decide (c ∈ q.1)
theorem mem_touch {n : Nat} {L : List Eqn} {c : Nat} : c ∈ touch n L ↔ c < n ∧ ∃ q ∈ L, c ∈ q.1 := by
  unfold touch
  rw [List.mem_filter, List.mem_range, List.any_eq_true]
  simp only [decide_eq_true_eq]
theorem touch_asc (n : Nat) (L : List Eqn) : (touch n L).Pairwise (· < ·) := List.pairwise_lt_range.filter _
theorem touch_nd (n : Nat) (L : List Eqn) : (touch n L).Nodup := (touch_asc n L).imp fun h => Nat.ne_of_lt h
theorem touch_set {n : Nat} {l : List EqR} (hg : ∀ q ∈ l, GoodE n q) : Lib.compact (srtL (allC l)) = (touch n (eqns l)).map Int.ofNat := by
  refine asc_ext (set_of _).asc ?_ fun x => ?_
  · rw [List.pairwise_map]
    exact (touch_asc n _).imp fun h => Int.ofNat_lt.2 h
  · rw [(set_of _).mem, List.mem_map]
    unfold allC
    rw [List.mem_flatMap]
    constructor
    · rintro ⟨q, hq, hx⟩
      obtain ⟨h1, h2⟩ := (hg q hq).lt x hx
      refine ⟨x.toNat, mem_touch.2 ⟨by omega, eqn q, List.mem_map.2 ⟨q, hq, rfl⟩, List.mem_map.2 ⟨x, hx, rfl⟩⟩, ?_⟩
      show ((x.toNat : Nat) : Int) = x
      omega
    · rintro ⟨c, hc, rfl⟩
      obtain ⟨_, q, hq, hcq⟩ := mem_touch.1 hc
      obtain ⟨q', hq', rfl⟩ := List.mem_map.1 hq
      obtain ⟨y, hy, he⟩ := List.mem_map.1 hcq
      have := (hg q' hq').lt y hy
      refine ⟨q', hq', ?_⟩
      have : Int.ofNat c = y := by show (c : Int) = y; omega
      rw [this]; exact hy
set_option maxRecDepth 10000 in
set_option maxHeartbeats 4000000 in
theorem Touched_spec (A : Option Addr) (c : Nat) (l : List EqR) (n : Nat) (I : PH) (hl : Eqs I A c l) (hg : ∀ q ∈ l, GoodE n q) (h9 : (allC l).length ≤ 1000000) :
    FnSpec Tryz.prog 70 [.int .i64 (n : Int), .slice A l.length c] I [] (fun v R' => ∃ A' c', v = .slice A' (touch n (eqns l)).length c' ∧ R' = [iR A' c' ((touch n (eqns l)).map Int.ofNat)]) := by
  have hlen := hl.len
  refine FnSpec.enterP Tryz.func70 rfl Tryz.ntmps70 rfl fun w F => ?_
  repeat' first
    | ((with_reducible refine Nx.is_wp ?_); first | refine Nx.wo ?_ | refine Nx.zp (fun hc => ?_) (fun hc => ?_))
    | (refine Nx.zo ?_; first | refine Nx.opr rfl rfl ?_ | refine Nx.so ?_ | refine Nx.sb (fun bx => ?_) | refine Nx.sa (fun A2 c2 => ?_))
    | ((with_reducible refine Nx.is_at ?_); first | refine Nx.a ?_ | refine Nx.zd ?_ | refine Nx.zs (fun hc => ?_) (fun hc => ?_))
    | ((with_reducible refine Nx.is_mix ?_); first | refine Nx.m ?_ | refine Nx.zm ?_ | refine Nx.zt (fun hc => ?_) (fun hc => ?_))
    | refine Nx.zx ?_ | fail
  refine Nx.p_loop (σ := Nat × Option Addr × Nat) (fun s => [(0, .int .i64 (n : Int)), (5, .slice s.2.1 (allC (l.take s.1)).length s.2.2), (10, .slice A l.length c), (11, .int .i64 l.length), (12, .int .i64 (s.1 : Int))])
    (fun s => [iR s.2.1 s.2.2 (allC (l.take s.1)), F]) (fun s => s.1 ≤ l.length) (fun s => l.length - s.1) (0, none, 0) rfl (Nat.zero_le _) ⟨rfl, rfl, rfl, rfl, rfl, trivial⟩ ((Ent.vec_nil _ _ _).trans (by (exact Ent.auto))) ?_
  rintro ⟨k, A1, c1⟩ hk
  dsimp only at hk ⊢
  by_cases hlt : k < l.length
  case neg =>
    obtain rfl : k = l.length := by omega
    rw [List.take_length]
    have hS := Sort_spec A1 c1 (allC l) I (by omega)
    have hC := Compact_spec A1 c1 (srtL (allC l)) I (by rw [srtL_len]; omega)
    rw [touch_set hg, srtL_len] at hC
    rw [srtL_len] at hS
    repeat' first
      | ((with_reducible refine Nx.is_wp ?_); first | refine Nx.wo ?_ | refine Nx.zp (fun hc => ?_) (fun hc => ?_))
      | (refine Nx.zo ?_; first | refine Nx.opr rfl rfl ?_ | (refine Nx.call rfl rfl rfl (by kernel_rfl) rfl hS (by unfold iR; (exact Ent.auto)) ?_; rintro _ _ ⟨rfl, rfl⟩) | (refine Nx.call rfl rfl rfl (by kernel_rfl) rfl hC (by (exact Ent.auto)) ?_; rintro _ _ ⟨rfl, rfl⟩) | refine Nx.so ?_ | refine Nx.sb (fun bx => ?_) | refine Nx.sa (fun A2 c2 => ?_))
      | ((with_reducible refine Nx.is_at ?_); first | refine Nx.a ?_ | refine Nx.zd ?_ | refine Nx.zs (fun hc => ?_) (fun hc => ?_))
      | ((with_reducible refine Nx.is_mix ?_); first | refine Nx.m ?_ | refine Nx.zm ?_ | refine Nx.zt (fun hc => ?_) (fun hc => ?_))
      | refine Nx.zx ?_ | fail
    exact Nx.ret_fn rfl [_] ⟨A1, c1, by rw [List.length_map], rfl⟩ (by unfold iR; (exact Ent.auto))
  have hin := hl.inner _ (getD_memQ hlt)
  have hbd := allC_le1 hlt
  have hsn := allC_snoc hlt
  have hgq := (hg _ (getD_memQ hlt)).lt
  have hrds : ∀ (W : World) (R : List Res), Rds W I R ((ad A).add (k * 2)) (eqC (l.getD k default)) := fun W R => hl.outer.rds hlt
  generalize l.getD k default = q at *
  obtain ⟨⟨Ax, cx, ix⟩, z⟩ := q
  dsimp only at hin hbd hsn hgq
  replace hrds : ∀ (W : World) (R : List Res), Rds W I R ((ad A).add (k * 2)) [.slice Ax ix.length cx, .int .i64 z] := hrds
  have hixl := hin.len
  repeat' first
    | ((with_reducible refine Nx.is_wp ?_); first | refine Nx.wo ?_ | refine Nx.zp (fun hc => ?_) (fun hc => ?_))
    | (refine Nx.zo ?_; first | refine Nx.opr rfl rfl ?_ | refine Nx.indexAddr_nat rfl rfl rfl rfl rfl (by omega) (hl.outer.isSome (by omega) (by omega)) ?_ | refine Nx.loads rfl rfl rfl rfl (hrds _ _) rfl ?_ | refine Nx.so ?_ | refine Nx.sb (fun bx => ?_) | refine Nx.sa (fun A2 c2 => ?_))
    | ((with_reducible refine Nx.is_at ?_); first | refine Nx.a ?_ | refine Nx.zd ?_ | refine Nx.zs (fun hc => ?_) (fun hc => ?_))
    | ((with_reducible refine Nx.is_mix ?_); first | refine Nx.m ?_ | refine Nx.zm ?_ | refine Nx.zt (fun hc => ?_) (fun hc => ?_))
    | refine Nx.zx ?_ | fail
  refine Nx.p_loop (σ := Nat × Option Addr × Nat) (fun s => [(0, .int .i64 (n : Int)), (5, .slice s.2.1 (allC (l.take k) ++ ix.take s.1).length s.2.2), (10, .slice A l.length c), (11, .int .i64 l.length), (12, .int .i64 (k : Int)), (17, .slice Ax ix.length cx), (18, .int .i64 ix.length), (19, .int .i64 (s.1 : Int))])
    (fun s => [iR s.2.1 s.2.2 (allC (l.take k) ++ ix.take s.1), F]) (fun s => s.1 ≤ ix.length) (fun s => ix.length - s.1) (0, A1, c1) rfl (Nat.zero_le _) ⟨rfl, by dsimp only; rw [List.take_zero, List.append_nil]; rfl, rfl, rfl, rfl, rfl, rfl, rfl, trivial⟩ (by dsimp only; rw [List.take_zero, List.append_nil]; (exact Ent.auto)) ?_
  rintro ⟨j, A9, c9⟩ hj
  dsimp only at hj ⊢
  by_cases hjl : j < ix.length
  · have hsj := take_snocJ hjl
    have hx := hgq (ix.getD j default) (by rw [List.getD_eq_getElem?_getD, List.getElem?_eq_getElem hjl]; exact List.getElem_mem _)
    have hlj : (ix.take j).length = j := by rw [List.length_take]; omega
    have hla : (allC (l.take k) ++ ix.take j).length ≤ 1000000 := by rw [List.length_append]; omega
    generalize hacc : allC (l.take k) ++ ix.take j = acc at hla ⊢
    repeat' first
      | ((with_reducible refine Nx.is_wp ?_); first | refine Nx.wo ?_ | refine Nx.zp (fun hc => ?_) (fun hc => ?_))
      | (refine Nx.zo ?_; first | refine Nx.opr rfl rfl ?_ | refine Nx.indexAddr_nat rfl rfl rfl rfl rfl (by omega) (hin.isSome (by omega)) ?_ | refine Nx.load rfl rfl rfl (hin.rd (by omega)) ?_ | refine Nx.so ?_ | refine Nx.sb (fun bx => ?_) | refine Nx.sa (fun A2 c2 => ?_))
      | ((with_reducible refine Nx.is_at ?_); first | refine Nx.a ?_ | refine Nx.zd ?_ | refine Nx.zs (fun hc => ?_) (fun hc => ?_))
      | ((with_reducible refine Nx.is_mix ?_); first | refine Nx.m ?_ | refine Nx.zm ?_ | refine Nx.zt (fun hc => ?_) (fun hc => ?_))
      | refine Nx.zx ?_ | fail
    refine Nx.again (j + 1, A2, c2) hjl (by dsimp only; omega) ⟨rfl, by dsimp only; rw [hsj, ← List.append_assoc, hacc, List.length_append]; rfl, rfl, rfl, rfl, rfl, rfl, rfl, trivial⟩ ?_
    dsimp only
    rw [hsj, ← List.append_assoc, hacc]
    refine Ent.pickE 0 rfl ?_ (by (exact Ent.auto))
    unfold iR
    rw [List.length_append, List.map_append]
    rfl
  · obtain rfl : j = ix.length := by omega
    rw [List.take_length, ← hsn]
    repeat' first
      | ((with_reducible refine Nx.is_wp ?_); first | refine Nx.wo ?_ | refine Nx.zp (fun hc => ?_) (fun hc => ?_))
      | (refine Nx.zo ?_; first | refine Nx.opr rfl rfl ?_ | refine Nx.so ?_ | refine Nx.sb (fun bx => ?_) | refine Nx.sa (fun A2 c2 => ?_))
      | ((with_reducible refine Nx.is_at ?_); first | refine Nx.a ?_ | refine Nx.zd ?_ | refine Nx.zs (fun hc => ?_) (fun hc => ?_))
      | ((with_reducible refine Nx.is_mix ?_); first | refine Nx.m ?_ | refine Nx.zm ?_ | refine Nx.zt (fun hc => ?_) (fun hc => ?_))
      | refine Nx.zx ?_ | fail
    exact Nx.again (k + 1, A9, c9) hlt (by dsimp only; omega) ⟨rfl, rfl, rfl, rfl, rfl, trivial⟩ (by (exact Ent.auto))
end Go.Proofs.YtjnhoemgceghlaaGreat
/-
  The proof engine, part AL: a statement of open order that forks, and whose last operations write what the first ones read.
-/
namespace Go.Eng
section
variable {P : Program} {ops : Array Oper} {Q : Exit → Act → World → Prop} {S : World → Prop} {fs fin fq : List Nat}
def lateW (ops : Array Oper) (fin : List Nat) (listed : Array Bool) (i : Nat) : Bool := fin.all fun j => listed.getD j false || finWaits .any ops [j] i
theorem wpAnyF_firstL {i : Nat} {oi : Oper} {v : Value} (hi : ops[i]? = some oi) (hs : Region.noSelect ops = true) (hQ : PanicOk Q) :
    ∀ (n : Nat) (listed : Array Bool) (a : Act) (w : World), Closed .any ops listed → (∀ j, fin.contains j = true → listed.getD j false = true ∨ finWaits .any ops [j] i = true) →
      (∀ j oj, ops[j]? = some oj → j ≠ i → listed.getD j true = false → (∀ e ∈ oj.after, Region.binds .any e = true → e.on ≠ i) → oi.apart ops oj = true) →
      i ∈ Region.ready .any ops listed → YieldsIf P ops S oi v a → S w →
      wpAnyF P .any ops Q S fin n (listed.setIfInBounds i true) (a.put oi.dst v) w → wpAnyF P .any ops Q S fin (n + 1) listed a w
  | n, listed, a, w, hcl, hfin, hap, hr, hy, hS, H => by
    refine ⟨fun h0 => (by rw [h0] at hr; cases hr), fun j hj => ?_⟩
    by_cases hji : j = i
    · subst hji; exact hy.wpOp hi hS ⟨fun _ => hS, H⟩
    · have hj2 := ready_mono hj hji
      obtain ⟨hjun, oj, hoj, _⟩ := mem_ready.1 hj
      have hno := ready_waits hr hj hoj
      have hnf : fin.contains j = false := by
        cases hf : fin.contains j with
        | false => rfl
        | true =>
          exfalso
          rcases hfin j hf with h0 | h0
          · rcases Nat.lt_or_ge j listed.size with h' | h'
            · simp [h'] at hjun h0
              rw [hjun] at h0; cases h0
            · simp [Array.getElem?_eq_none h'] at h0
          · have := finWaits_not hcl h0 hr hj
            simp at this
      match n, H with
      | 0, H => rw [H.1] at hj2; cases hj2
      | n + 1, H =>
        have h1 := H.2 j hj2
        have h2 := wpOp_putIf hoj (hap j oj hoj hji hjun hno) (fun cs b => Region.noSelect_spec hs i oi cs b hi) (fun cs b => Region.noSelect_spec hs j oj cs b hoj) (fun c a w => hQ c oi.dst v a w) hy h1
        refine wpOp_mono (fun a' w' h3 => ?_) h2
        obtain ⟨hy', hS', H'⟩ := h3
        refine ⟨fun _ => hS' hnf, wpAnyF_firstL hi hs hQ n (listed.setIfInBounds j true) a' w' (hcl.set hj) (fun k hk => (hfin k hk).imp (fun h => getD_set_true h) id) (fun k ok hk hki hun hnk => ?_) (ready_mono hr (Ne.symm hji)) hy' (hS' hnf) ?_⟩
        · refine hap k ok hk hki ?_ hnk
          by_cases hjk : j = k
          · subst hjk; exact hjun
          · rwa [getD_set_ne true hjk] at hun
        · rw [Array.setIfInBounds_comm _ _ hji]
          exact H'
def preOkF (ops : Array Oper) (fin : List Nat) (k : Array Bool → Bool) : List Nat → Array Bool → Bool
  | [], listed => k listed
  | q :: r, listed => Region.free .any ops listed q && (Region.ready .any ops listed).contains q && lateW ops fin listed q && preOkF ops fin k r (listed.setIfInBounds q true)
def wpForkF (P : Program) (ops : Array Oper) (Q : Exit → Act → World → Prop) (S : World → Prop) (fs fin fq : List Nat) : Nat → Array Bool → Act → World → Prop
  | 0, _, _, _ => False
  | n + 1, listed, a, w => (mixOk ops fq fin listed = true ∧ fin.all (fs.contains ·) = true ∧ fin.length ≤ n + 1 ∧ wpMix P ops Q AnyW fq fin a w) ∨
    (∃ i, (fs.contains i && Region.free .any ops listed i && (Region.ready .any ops listed).contains i) = true ∧ wpMix P ops (Exit.then (wpForkF P ops Q S fs fin fq n (listed.setIfInBounds i true)) Q) AnyW [] [i] a w) ∨
    (∃ i, preOkF ops fs (fun _ => true) [i] listed = true ∧ wpMix P ops (Exit.then (wpForkF P ops Q S fs fin fq n (listed.setIfInBounds i true)) Q) S [] [i] a w) ∨
    (Region.ready .any ops listed ≠ [] ∧ ∀ i ∈ Region.ready .any ops listed, wpOp P ops Q i (fun a' w' => S w' ∧ wpForkF P ops Q S fs fin fq n (listed.setIfInBounds i true) a' w') a w)
theorem wpForkF_any (hs : Region.noSelect ops = true) (hQ : PanicOk Q) : ∀ (n : Nat) (listed : Array Bool) (a : Act) (w : World), Closed .any ops listed → wpForkF P ops Q S fs fin fq n listed a w → S w → wpAnyF P .any ops Q S fs n listed a w
  | 0, _, _, _, _, h, _ => h.elim
  | n + 1, listed, a, w, hcl, h, hS => by
    rcases h with ⟨h1, h0, h2, h3⟩ | ⟨i, h1, h2⟩ | ⟨i, h1, h2⟩ | ⟨h1, h2⟩
    · exact wpMix_finQ hs hQ (fun k hk => by simpa using hk) fin (n + 1) listed a w (fun k hk => by simpa using List.all_eq_true.1 h0 k hk) h1 h2 h3
    · obtain ⟨o, ho, h⟩ := h2
      simp only [Bool.and_eq_true] at h1
      rw [if_neg (by simp)] at h
      obtain ⟨v, hy, h⟩ := h
      exact wpAnyF_firstA ho hs hQ h1.1.1 n listed a w (Region.free_spec ho h1.1.2) (by simpa using h1.2) hy (wpForkF_any hs hQ n _ _ w (hcl.set (by simpa using h1.2)) h hS)
    · obtain ⟨o, ho, h⟩ := h2
      simp only [preOkF, Bool.and_eq_true] at h1
      rw [if_neg (by simp)] at h
      obtain ⟨v, hy, h⟩ := h
      exact wpAnyF_firstL ho hs hQ n listed a w hcl (fun j hj => by have := List.all_eq_true.1 h1.1.2 j (by simpa using hj); simpa using this) (Region.free_spec ho h1.1.1.1) (by simpa using h1.1.1.2) hy hS (wpForkF_any hs hQ n _ _ w (hcl.set (by simpa using h1.1.1.2)) h hS)
    · exact ⟨fun h0 => absurd h0 h1, fun i hi => wpOp_mono (fun a' w' ⟨h3, h4⟩ => ⟨fun _ => h3, wpForkF_any hs hQ n _ a' w' (hcl.set hi) h4 h3⟩) (h2 i hi)⟩
end
section
variable {C : Cx} {e e' : Env} {I : PH} {R R' R0 : List Res} {K K' : Act → World → Prop} {Q : Exit → Act → World → Prop} {W : World}
variable {ops : Array Oper} {S : World → Prop} {fs fin fq : List Nat} {c : Code} {n i j k : Nat} {o oi oj ok : Oper} {listed : Array Bool}
/-- 'fin': what comes when all the others have come up. -/
theorem Nx.p_forkF {id : Nat} (hid : cid c = id) (fs fin fq : List Nat) (R0 : List Res) {sz : Nat} (hsz : (cops c).size = sz) (hk : ck c = 2) (hm : C.P.follows .mixedOrders = true) (hs : Region.noSelect (cops c) = true) (hQ : PanicOk Q) (hR : Ent R R0)
    (h : Nx C e I R (wpForkF C.P (cops c) Q (St C.W I R0) fs fin fq sz (Array.replicate sz false))) : Nx C e I R (c.wp C.P Q) := by
  have hc : c = .region (cid c) (cops c) true := by
    cases c <;> first | (simp [ck] at hk; done) | skip
    rename_i b
    cases b with
    | false => simp [ck] at hk
    | true => rfl
  clear hid
  subst hsz
  rw [hc]
  intro a w ha hw
  exact wp_region_any hm (wpAny_of_fin _ _ _ _ (wpForkF_any (S := St C.W I R0) hs hQ _ _ a _ (Closed.start _) (h a _ ha hw.drew) (hw.drew.ent hR)))
theorem Nx.forkF_fin (hok : mixOk ops fq fin listed = true) (h0 : fin.all (fs.contains ·) = true) (hl : Nat.ble fin.length (n + 1) = true) (h : Nx C e I R (wpMix C.P ops Q AnyW fq fin)) : Nx C e I R (wpForkF C.P ops Q S fs fin fq (n + 1) listed) :=
  fun a w ha hw => .inl ⟨hok, h0, Nat.le_of_ble_eq_true hl, h a w ha hw⟩
/-- Operation i reads no memory, and may come now. -/
theorem Nx.forkF_m (i : Nat) (hok : (fs.contains i && Region.free .any ops listed i && (Region.ready .any ops listed).contains i) = true) (h : Nx C e I R (wpMix C.P ops (Exit.then (wpForkF C.P ops Q S fs fin fq n (listed.setIfInBounds i true)) Q) AnyW [] [i])) : Nx C e I R (wpForkF C.P ops Q S fs fin fq (n + 1) listed) :=
  fun a w ha hw => .inr (.inl ⟨i, hok, h a w ha hw⟩)
theorem forkF_pre {P : Program} : ∀ (qs : List Nat) (listed : Array Bool) (a : Act) (w : World), preOkF ops fs (fun _ => true) qs listed = true → wpMix P ops (Exit.then (wpForkF P ops Q S fs fin fq n (qs.foldl (fun l i => l.setIfInBounds i true) listed)) Q) S [] qs a w → wpForkF P ops Q S fs fin fq (n + qs.length) listed a w
  | [], _, _, _, _, h => h
  | q :: r, listed, a, w, hok, h => by
    obtain ⟨o, ho, h⟩ := h
    simp only [preOkF, Bool.and_eq_true] at hok
    rw [if_neg (by simp)] at h
    obtain ⟨v, hy, h⟩ := h
    have ih := forkF_pre r (listed.setIfInBounds q true) _ w hok.2 h
    refine .inr (.inr (.inl ⟨q, by simp only [preOkF, Bool.and_eq_true]; exact ⟨hok.1, trivial⟩, o, ho, ?_⟩))
    rw [if_neg (by simp)]
    exact ⟨v, hy, ih⟩
/-- Several operations that only read. -/
theorem Nx.forkF_qs (qs : List Nat) (n : Nat) {m : Nat} (hm : m = n + qs.length) (hok : preOkF ops fs (fun _ => true) qs listed = true) (h : Nx C e I R (wpMix C.P ops (Exit.then (wpForkF C.P ops Q S fs fin fq n (qs.foldl (fun l i => l.setIfInBounds i true) listed)) Q) S [] qs)) : Nx C e I R (wpForkF C.P ops Q S fs fin fq m listed) :=
  fun a w ha hw => hm ▸ forkF_pre qs listed a w hok (h a w ha hw)
theorem Nx.forkF1 (hr : Region.ready .any ops listed = [i]) (ho : opAt ops.toList i = some oi) (hg : oi.guard = none)
    (h : Nx C e I R (opK C.P oi (fun a w => S w ∧ wpForkF C.P ops Q S fs fin fq n (listed.setIfInBounds i true) a w) Q)) : Nx C e I R (wpForkF C.P ops Q S fs fin fq (n + 1) listed) := fun a w ha hw =>
  .inr (.inr (.inr ⟨by rw [hr]; simp, fun k hk => by
    rw [hr, List.mem_singleton] at hk
    subst hk
    exact wpOp_of ho hg h a w ha hw⟩))
theorem Nx.forkF2 (hr : Region.ready .any ops listed = [i, j]) (hoi : opAt ops.toList i = some oi) (hgi : oi.guard = none) (hoj : opAt ops.toList j = some oj) (hgj : oj.guard = none)
    (hi : Nx C e I R (opK C.P oi (fun a w => S w ∧ wpForkF C.P ops Q S fs fin fq n (listed.setIfInBounds i true) a w) Q))
    (hj : Nx C e I R (opK C.P oj (fun a w => S w ∧ wpForkF C.P ops Q S fs fin fq n (listed.setIfInBounds j true) a w) Q)) : Nx C e I R (wpForkF C.P ops Q S fs fin fq (n + 1) listed) := fun a w ha hw =>
  .inr (.inr (.inr ⟨by rw [hr]; simp, fun k hk => by
    rw [hr, List.mem_cons, List.mem_singleton] at hk
    rcases hk with rfl | rfl
    · exact wpOp_of hoi hgi hi a w ha hw
    · exact wpOp_of hoj hgj hj a w ha hw⟩))
theorem Nx.forkF3 (hr : Region.ready .any ops listed = [i, j, k]) (hoi : opAt ops.toList i = some oi) (hgi : oi.guard = none) (hoj : opAt ops.toList j = some oj) (hgj : oj.guard = none) (hok : opAt ops.toList k = some ok) (hgk : ok.guard = none)
    (hi : Nx C e I R (opK C.P oi (fun a w => S w ∧ wpForkF C.P ops Q S fs fin fq n (listed.setIfInBounds i true) a w) Q))
    (hj : Nx C e I R (opK C.P oj (fun a w => S w ∧ wpForkF C.P ops Q S fs fin fq n (listed.setIfInBounds j true) a w) Q))
    (hk : Nx C e I R (opK C.P ok (fun a w => S w ∧ wpForkF C.P ops Q S fs fin fq n (listed.setIfInBounds k true) a w) Q)) : Nx C e I R (wpForkF C.P ops Q S fs fin fq (n + 1) listed) := fun a w ha hw =>
  .inr (.inr (.inr ⟨by rw [hr]; simp, fun m hm => by
    rw [hr, List.mem_cons, List.mem_cons, List.mem_singleton] at hm
    rcases hm with rfl | rfl | rfl
    · exact wpOp_of hoi hgi hi a w ha hw
    · exact wpOp_of hoj hgj hj a w ha hw
    · exact wpOp_of hok hgk hk a w ha hw⟩))
end
end Go.Eng
/- Contracts of functions of the given program, and lemmas about plain lists and numbers: what the laws of this seat lean on. -/
namespace Go.Proofs.YtjnhoemgceghlaaGreat
open Go.Eng Go.Sol
attribute [local irreducible] opK wpList Code.wp Exit.then Exit.inBlock fnPost bodyPost Nx Calls Oper.wp Rd Rds Wr Ent Stars Blk Again Vec FnSpec wpMix QRun Stop Upto wpAt
attribute [local irreducible] wpForkF
/-! The problem at the start: two statements of open order -/
set_option maxRecDepth 10000 in
set_option maxHeartbeats 8000000 in
theorem start_r1 (w : World) (K : Act → World → Prop) (Q : Exit → Act → World → Prop) (hQ : PanicOk Q) (F : Res) (A : Option Addr) (c : Nat) (l : List EqR) (n : Nat) (I : PH) (hl : Eqs I A c l) (hg : ∀ q ∈ l, GoodE n q) (hn : n ≤ 4096) (h9 : (allC l).length ≤ 1000000)
    (h : ∀ At ct bi bt b, Nx ⟨Tryz.prog, 75, w⟩ [(0, .int .i64 (n : Int)), (1, .slice A l.length c), (5, .pointer (some ⟨b, 0, none⟩))] I [Blk b PT [.slice At (touch n (eqns l)).length ct, .slice (some ⟨bi, 0, none⟩) n n, .slice none 0 0, .slice none 0 0, .slice (some ⟨bt, 0, none⟩) n n], iR At ct ((touch n (eqns l)).map Int.ofNat), Vec 25 1 (some ⟨bi, 0, none⟩) n n (List.replicate n (.slice none 0 0)), Vec 3 1 (some ⟨bt, 0, none⟩) n n ((List.replicate n (0 : Int)).map (Value.int .i64)), F] K) :
    Nx ⟨Tryz.prog, 75, w⟩ [(0, .int .i64 (n : Int)), (1, .slice A l.length c)] I [F] (Code.wp Tryz.prog (cl (cr (bodyOf Tryz.f122))) (Exit.then K Q)) := by
  have hlen := hl.len
  have hT := Touched_spec A c l n I hl hg h9
  refine Nx.p_forkF (id := 1) rfl [7, 8, 9] [7, 8, 9] [8] [] rfl rfl (by kernel_rfl) (by kernel_rfl) (PanicOk.then_ hQ) (Ent.nil _) ?_
  refine Nx.forkF_qs [0, 1, 3, 5] 6 rfl (by kernel_rfl) ?_
  repeat' first
    | ((with_reducible refine Nx.is_wp ?_); first | refine Nx.wo ?_ | refine Nx.zp (fun hc => ?_) (fun hc => ?_))
    | (refine Nx.zo ?_; first | refine Nx.opr rfl rfl ?_ | refine Nx.so ?_ | refine Nx.sb (fun bx => ?_) | refine Nx.sa (fun A2 c2 => ?_))
    | ((with_reducible refine Nx.is_at ?_); first | refine Nx.a ?_ | refine Nx.zd ?_ | refine Nx.zs (fun hc => ?_) (fun hc => ?_))
    | ((with_reducible refine Nx.is_mix ?_); first | refine Nx.m ?_ | refine Nx.zm ?_ | refine Nx.zt (fun hc => ?_) (fun hc => ?_))
    | refine Nx.zx ?_ | fail
  refine Nx.forkF3 (i := 2) (j := 4) (k := 6) (by kernel_rfl) rfl rfl rfl rfl rfl rfl ?_ ?_ ?_
  · refine Nx.call (Rpre := []) rfl rfl rfl (by kernel_rfl) rfl hT (Ent.refl _) ?_
    rintro _ _ ⟨At, ct, rfl, rfl⟩
    refine Nx.mix_S (Ent.nil _) ?_
    refine Nx.forkF2 (i := 4) (j := 6) (by kernel_rfl) rfl rfl rfl rfl ?_ ?_
    · refine Nx.makeSlice (by_ := 24) rfl rfl rfl rfl rfl rfl rfl rfl rfl (by omega) (by unfold maxLen; omega) (fun bi => ?_)
      refine Nx.mix_S (Ent.nil _) ?_
      refine Nx.forkF1 (i := 6) (by kernel_rfl) rfl rfl ?_
      refine Nx.makeInts rfl rfl rfl rfl rfl rfl rfl rfl (by omega) (fun bt => ?_)
      refine Nx.mix_S (Ent.nil _) ?_
      refine Nx.forkF_fin (by kernel_rfl) (by kernel_rfl) rfl ?_
      repeat' first
        | ((with_reducible refine Nx.is_wp ?_); first | refine Nx.wo ?_ | refine Nx.zp (fun hc => ?_) (fun hc => ?_))
        | (refine Nx.zo ?_; first | refine Nx.opr rfl rfl ?_ | refine Nx.so ?_ | refine Nx.sb (fun bx => ?_) | refine Nx.sa (fun A2 c2 => ?_))
        | ((with_reducible refine Nx.is_at ?_); first | refine Nx.a ?_ | refine Nx.zd ?_ | refine Nx.zs (fun hc => ?_) (fun hc => ?_))
        | ((with_reducible refine Nx.is_mix ?_); first | refine Nx.m ?_ | refine Nx.zm ?_ | refine Nx.zt (fun hc => ?_) (fun hc => ?_))
        | refine Nx.zx ?_ | fail
      exact Nx.weak (by exact ⟨rfl, rfl, rfl, trivial⟩) (by unfold iR; (exact Ent.auto)) (h At ct bi bt _)
    · refine Nx.makeInts rfl rfl rfl rfl rfl rfl rfl rfl (by omega) (fun bt => ?_)
      refine Nx.mix_S (Ent.nil _) ?_
      refine Nx.forkF1 (i := 4) (by kernel_rfl) rfl rfl ?_
      refine Nx.makeSlice (by_ := 24) rfl rfl rfl rfl rfl rfl rfl rfl rfl (by omega) (by unfold maxLen; omega) (fun bi => ?_)
      refine Nx.mix_S (Ent.nil _) ?_
      refine Nx.forkF_fin (by kernel_rfl) (by kernel_rfl) rfl ?_
      repeat' first
        | ((with_reducible refine Nx.is_wp ?_); first | refine Nx.wo ?_ | refine Nx.zp (fun hc => ?_) (fun hc => ?_))
        | (refine Nx.zo ?_; first | refine Nx.opr rfl rfl ?_ | refine Nx.so ?_ | refine Nx.sb (fun bx => ?_) | refine Nx.sa (fun A2 c2 => ?_))
        | ((with_reducible refine Nx.is_at ?_); first | refine Nx.a ?_ | refine Nx.zd ?_ | refine Nx.zs (fun hc => ?_) (fun hc => ?_))
        | ((with_reducible refine Nx.is_mix ?_); first | refine Nx.m ?_ | refine Nx.zm ?_ | refine Nx.zt (fun hc => ?_) (fun hc => ?_))
        | refine Nx.zx ?_ | fail
      exact Nx.weak (by exact ⟨rfl, rfl, rfl, trivial⟩) (by unfold iR; (exact Ent.auto)) (h At ct bi bt _)
  · refine Nx.makeSlice (by_ := 24) rfl rfl rfl rfl rfl rfl rfl rfl rfl (by omega) (by unfold maxLen; omega) (fun bi => ?_)
    refine Nx.mix_S (Ent.nil _) ?_
    refine Nx.forkF2 (i := 2) (j := 6) (by kernel_rfl) rfl rfl rfl rfl ?_ ?_
    · refine Nx.call (Rpre := []) rfl rfl rfl (by kernel_rfl) rfl hT (Ent.refl _) ?_
      rintro _ _ ⟨At, ct, rfl, rfl⟩
      refine Nx.mix_S (Ent.nil _) ?_
      refine Nx.forkF1 (i := 6) (by kernel_rfl) rfl rfl ?_
      refine Nx.makeInts rfl rfl rfl rfl rfl rfl rfl rfl (by omega) (fun bt => ?_)
      refine Nx.mix_S (Ent.nil _) ?_
      refine Nx.forkF_fin (by kernel_rfl) (by kernel_rfl) rfl ?_
      repeat' first
        | ((with_reducible refine Nx.is_wp ?_); first | refine Nx.wo ?_ | refine Nx.zp (fun hc => ?_) (fun hc => ?_))
        | (refine Nx.zo ?_; first | refine Nx.opr rfl rfl ?_ | refine Nx.so ?_ | refine Nx.sb (fun bx => ?_) | refine Nx.sa (fun A2 c2 => ?_))
        | ((with_reducible refine Nx.is_at ?_); first | refine Nx.a ?_ | refine Nx.zd ?_ | refine Nx.zs (fun hc => ?_) (fun hc => ?_))
        | ((with_reducible refine Nx.is_mix ?_); first | refine Nx.m ?_ | refine Nx.zm ?_ | refine Nx.zt (fun hc => ?_) (fun hc => ?_))
        | refine Nx.zx ?_ | fail
      exact Nx.weak (by exact ⟨rfl, rfl, rfl, trivial⟩) (by unfold iR; (exact Ent.auto)) (h At ct bi bt _)
    · refine Nx.makeInts rfl rfl rfl rfl rfl rfl rfl rfl (by omega) (fun bt => ?_)
      refine Nx.mix_S (Ent.nil _) ?_
      refine Nx.forkF1 (i := 2) (by kernel_rfl) rfl rfl ?_
      refine Nx.call (Rpre := []) rfl rfl rfl (by kernel_rfl) rfl hT (Ent.refl _) ?_
      rintro _ _ ⟨At, ct, rfl, rfl⟩
      refine Nx.mix_S (Ent.nil _) ?_
      refine Nx.forkF_fin (by kernel_rfl) (by kernel_rfl) rfl ?_
      repeat' first
        | ((with_reducible refine Nx.is_wp ?_); first | refine Nx.wo ?_ | refine Nx.zp (fun hc => ?_) (fun hc => ?_))
        | (refine Nx.zo ?_; first | refine Nx.opr rfl rfl ?_ | refine Nx.so ?_ | refine Nx.sb (fun bx => ?_) | refine Nx.sa (fun A2 c2 => ?_))
        | ((with_reducible refine Nx.is_at ?_); first | refine Nx.a ?_ | refine Nx.zd ?_ | refine Nx.zs (fun hc => ?_) (fun hc => ?_))
        | ((with_reducible refine Nx.is_mix ?_); first | refine Nx.m ?_ | refine Nx.zm ?_ | refine Nx.zt (fun hc => ?_) (fun hc => ?_))
        | refine Nx.zx ?_ | fail
      exact Nx.weak (by exact ⟨rfl, rfl, rfl, trivial⟩) (by unfold iR; (exact Ent.auto)) (h At ct bi bt _)
  · refine Nx.makeInts rfl rfl rfl rfl rfl rfl rfl rfl (by omega) (fun bt => ?_)
    refine Nx.mix_S (Ent.nil _) ?_
    refine Nx.forkF2 (i := 2) (j := 4) (by kernel_rfl) rfl rfl rfl rfl ?_ ?_
    · refine Nx.call (Rpre := []) rfl rfl rfl (by kernel_rfl) rfl hT (Ent.refl _) ?_
      rintro _ _ ⟨At, ct, rfl, rfl⟩
      refine Nx.mix_S (Ent.nil _) ?_
      refine Nx.forkF1 (i := 4) (by kernel_rfl) rfl rfl ?_
      refine Nx.makeSlice (by_ := 24) rfl rfl rfl rfl rfl rfl rfl rfl rfl (by omega) (by unfold maxLen; omega) (fun bi => ?_)
      refine Nx.mix_S (Ent.nil _) ?_
      refine Nx.forkF_fin (by kernel_rfl) (by kernel_rfl) rfl ?_
      repeat' first
        | ((with_reducible refine Nx.is_wp ?_); first | refine Nx.wo ?_ | refine Nx.zp (fun hc => ?_) (fun hc => ?_))
        | (refine Nx.zo ?_; first | refine Nx.opr rfl rfl ?_ | refine Nx.so ?_ | refine Nx.sb (fun bx => ?_) | refine Nx.sa (fun A2 c2 => ?_))
        | ((with_reducible refine Nx.is_at ?_); first | refine Nx.a ?_ | refine Nx.zd ?_ | refine Nx.zs (fun hc => ?_) (fun hc => ?_))
        | ((with_reducible refine Nx.is_mix ?_); first | refine Nx.m ?_ | refine Nx.zm ?_ | refine Nx.zt (fun hc => ?_) (fun hc => ?_))
        | refine Nx.zx ?_ | fail
      exact Nx.weak (by exact ⟨rfl, rfl, rfl, trivial⟩) (by unfold iR; (exact Ent.auto)) (h At ct bi bt _)
    · refine Nx.makeSlice (by_ := 24) rfl rfl rfl rfl rfl rfl rfl rfl rfl (by omega) (by unfold maxLen; omega) (fun bi => ?_)
      refine Nx.mix_S (Ent.nil _) ?_
      refine Nx.forkF1 (i := 2) (by kernel_rfl) rfl rfl ?_
      refine Nx.call (Rpre := []) rfl rfl rfl (by kernel_rfl) rfl hT (Ent.refl _) ?_
      rintro _ _ ⟨At, ct, rfl, rfl⟩
      refine Nx.mix_S (Ent.nil _) ?_
      refine Nx.forkF_fin (by kernel_rfl) (by kernel_rfl) rfl ?_
      repeat' first
        | ((with_reducible refine Nx.is_wp ?_); first | refine Nx.wo ?_ | refine Nx.zp (fun hc => ?_) (fun hc => ?_))
        | (refine Nx.zo ?_; first | refine Nx.opr rfl rfl ?_ | refine Nx.so ?_ | refine Nx.sb (fun bx => ?_) | refine Nx.sa (fun A2 c2 => ?_))
        | ((with_reducible refine Nx.is_at ?_); first | refine Nx.a ?_ | refine Nx.zd ?_ | refine Nx.zs (fun hc => ?_) (fun hc => ?_))
        | ((with_reducible refine Nx.is_mix ?_); first | refine Nx.m ?_ | refine Nx.zm ?_ | refine Nx.zt (fun hc => ?_) (fun hc => ?_))
        | refine Nx.zx ?_ | fail
      exact Nx.weak (by exact ⟨rfl, rfl, rfl, trivial⟩) (by unfold iR; (exact Ent.auto)) (h At ct bi bt _)
set_option maxRecDepth 10000 in
set_option maxHeartbeats 8000000 in
theorem start_r5 (w : World) (K : Act → World → Prop) (Q : Exit → Act → World → Prop) (hQ : PanicOk Q) (RR : List Res) (v0 v1 v19 tv iv av : Value) (b b7 m j k : Nat) (Ar Ao Ax : Option Addr) (crr coo cx : Nat) (re op ix : List Int) (z : Int) (I : PH) (hr9 : re.length ≤ 1000000) (ho9 : op.length ≤ 1000000)
    (h : ∀ A2 c2 A3 c3, Nx ⟨Tryz.prog, 75, w⟩ [(0, v0), (1, v1), (5, .pointer (some ⟨b, 0, none⟩)), (6, .int .i64 (j : Int)), (7, .pointer (some ⟨b7, 0, none⟩)), (19, v19), (20, .int .i64 (m : Int)), (21, .int .i64 (k : Int))] I
      (Blk b PT [tv, iv, .slice A2 (re ++ [z]).length c2, .slice A3 (op ++ [(ix.length : Int)]).length c3, av] :: Blk b7 140 [.slice Ax ix.length cx, .int .i64 z] :: iR A2 c2 (re ++ [z]) :: iR A3 c3 (op ++ [(ix.length : Int)]) :: RR) K) :
    Nx ⟨Tryz.prog, 75, w⟩ [(0, v0), (1, v1), (5, .pointer (some ⟨b, 0, none⟩)), (6, .int .i64 (j : Int)), (7, .pointer (some ⟨b7, 0, none⟩)), (19, v19), (20, .int .i64 (m : Int)), (21, .int .i64 (k : Int))] I
      (Blk b PT [tv, iv, .slice Ar re.length crr, .slice Ao op.length coo, av] :: Blk b7 140 [.slice Ax ix.length cx, .int .i64 z] :: iR Ar crr re :: iR Ao coo op :: RR) (Code.wp Tryz.prog (cl (cr (cl (cl (cr (cr (cl (cl (cr (cl (cr (cr (bodyOf Tryz.f122)))))))))))) ) (Exit.then K Q)) := by
  refine Nx.p_forkF (id := 5) rfl [1, 19, 20, 21, 22, 23, 24] [19, 20, 21, 22, 23, 24] [21, 24] [Blk b PT [tv, iv, .slice Ar re.length crr, .slice Ao op.length coo, av], Blk b7 140 [.slice Ax ix.length cx, .int .i64 z]] rfl rfl (by kernel_rfl) (by kernel_rfl) (PanicOk.then_ hQ) (by (exact Ent.auto)) ?_
  refine Nx.forkF_m 1 (by kernel_rfl) ?_
  repeat' first
    | ((with_reducible refine Nx.is_wp ?_); first | refine Nx.wo ?_ | refine Nx.zp (fun hc => ?_) (fun hc => ?_))
    | (refine Nx.zo ?_; first | refine Nx.opr rfl rfl ?_ | refine Nx.so ?_ | refine Nx.sb (fun bx => ?_) | refine Nx.sa (fun A2 c2 => ?_))
    | ((with_reducible refine Nx.is_at ?_); first | refine Nx.a ?_ | refine Nx.zd ?_ | refine Nx.zs (fun hc => ?_) (fun hc => ?_))
    | ((with_reducible refine Nx.is_mix ?_); first | refine Nx.m ?_ | refine Nx.zm ?_ | refine Nx.zt (fun hc => ?_) (fun hc => ?_))
    | refine Nx.zx ?_ | fail
  refine Nx.forkF_qs [0, 2, 3, 4, 5, 6, 7, 10, 11, 12, 13, 14, 15, 16] 10 rfl (by kernel_rfl) ?_
  repeat' first
    | ((with_reducible refine Nx.is_wp ?_); first | refine Nx.wo ?_ | refine Nx.zp (fun hc => ?_) (fun hc => ?_))
    | (refine Nx.zo ?_; first | refine Nx.opr rfl rfl ?_ | refine Nx.so ?_ | refine Nx.sb (fun bx => ?_) | refine Nx.sa (fun A2 c2 => ?_))
    | ((with_reducible refine Nx.is_at ?_); first | refine Nx.a ?_ | refine Nx.zd ?_ | refine Nx.zs (fun hc => ?_) (fun hc => ?_))
    | ((with_reducible refine Nx.is_mix ?_); first | refine Nx.m ?_ | refine Nx.zm ?_ | refine Nx.zt (fun hc => ?_) (fun hc => ?_))
    | refine Nx.zx ?_ | fail
  refine Nx.forkF2 (i := 8) (j := 17) (by kernel_rfl) rfl rfl rfl rfl ?_ ?_
  · refine Nx.sb (fun b8 => ?_)
    refine Nx.mix_S (by (exact Ent.auto)) ?_
    refine Nx.forkF2 (i := 9) (j := 17) (by kernel_rfl) rfl rfl rfl rfl ?_ ?_
    · refine Nx.sa (fun A2 c2 => ?_)
      refine Nx.mix_S (by (exact Ent.auto)) ?_
      refine Nx.forkF1 (i := 17) (by kernel_rfl) rfl rfl ?_
      refine Nx.sb (fun b17 => ?_)
      refine Nx.mix_S (by (exact Ent.auto)) ?_
      refine Nx.forkF1 (i := 18) (by kernel_rfl) rfl rfl ?_
      refine Nx.sa (fun A3 c3 => ?_)
      refine Nx.mix_S (by (exact Ent.auto)) ?_
      refine Nx.forkF_fin (by kernel_rfl) (by kernel_rfl) rfl ?_
      repeat' first
        | ((with_reducible refine Nx.is_wp ?_); first | refine Nx.wo ?_ | refine Nx.zp (fun hc => ?_) (fun hc => ?_))
        | (refine Nx.zo ?_; first | refine Nx.opr rfl rfl ?_ | refine Nx.so ?_ | refine Nx.sb (fun bx => ?_) | refine Nx.sa (fun A2 c2 => ?_))
        | ((with_reducible refine Nx.is_at ?_); first | refine Nx.a ?_ | refine Nx.zd ?_ | refine Nx.zs (fun hc => ?_) (fun hc => ?_))
        | ((with_reducible refine Nx.is_mix ?_); first | refine Nx.m ?_ | refine Nx.zm ?_ | refine Nx.zt (fun hc => ?_) (fun hc => ?_))
        | refine Nx.zx ?_ | fail
      exact Nx.weak (by exact ⟨rfl, rfl, rfl, rfl, rfl, rfl, rfl, rfl, trivial⟩) (by unfold iR; rw [List.length_append, List.length_append, List.map_append, List.map_append]; (exact Ent.auto)) (h A2 c2 A3 c3)
    · refine Nx.sb (fun b17 => ?_)
      refine Nx.mix_S (by (exact Ent.auto)) ?_
      refine Nx.forkF1 (i := 9) (by kernel_rfl) rfl rfl ?_
      refine Nx.ent (Ent.swap _ _ _) ?_
      refine Nx.sa (fun A2 c2 => ?_)
      refine Nx.mix_S (by (exact Ent.auto)) ?_
      refine Nx.forkF1 (i := 18) (by kernel_rfl) rfl rfl ?_
      refine Nx.ent (Ent.swap _ _ _) ?_
      refine Nx.sa (fun A3 c3 => ?_)
      refine Nx.mix_S (by (exact Ent.auto)) ?_
      refine Nx.forkF_fin (by kernel_rfl) (by kernel_rfl) rfl ?_
      repeat' first
        | ((with_reducible refine Nx.is_wp ?_); first | refine Nx.wo ?_ | refine Nx.zp (fun hc => ?_) (fun hc => ?_))
        | (refine Nx.zo ?_; first | refine Nx.opr rfl rfl ?_ | refine Nx.so ?_ | refine Nx.sb (fun bx => ?_) | refine Nx.sa (fun A2 c2 => ?_))
        | ((with_reducible refine Nx.is_at ?_); first | refine Nx.a ?_ | refine Nx.zd ?_ | refine Nx.zs (fun hc => ?_) (fun hc => ?_))
        | ((with_reducible refine Nx.is_mix ?_); first | refine Nx.m ?_ | refine Nx.zm ?_ | refine Nx.zt (fun hc => ?_) (fun hc => ?_))
        | refine Nx.zx ?_ | fail
      exact Nx.weak (by exact ⟨rfl, rfl, rfl, rfl, rfl, rfl, rfl, rfl, trivial⟩) (by unfold iR; rw [List.length_append, List.length_append, List.map_append, List.map_append]; (exact Ent.auto)) (h A2 c2 A3 c3)
  · refine Nx.sb (fun b17 => ?_)
    refine Nx.mix_S (by (exact Ent.auto)) ?_
    refine Nx.forkF1 (i := 8) (by kernel_rfl) rfl rfl ?_
    refine Nx.sb (fun b8 => ?_)
    refine Nx.mix_S (by (exact Ent.auto)) ?_
    refine Nx.forkF1 (i := 9) (by kernel_rfl) rfl rfl ?_
    refine Nx.sa (fun A2 c2 => ?_)
    refine Nx.mix_S (by (exact Ent.auto)) ?_
    refine Nx.forkF1 (i := 18) (by kernel_rfl) rfl rfl ?_
    refine Nx.ent (Ent.swap _ _ _) ?_
    refine Nx.sa (fun A3 c3 => ?_)
    refine Nx.mix_S (by (exact Ent.auto)) ?_
    refine Nx.forkF_fin (by kernel_rfl) (by kernel_rfl) rfl ?_
    repeat' first
      | ((with_reducible refine Nx.is_wp ?_); first | refine Nx.wo ?_ | refine Nx.zp (fun hc => ?_) (fun hc => ?_))
      | (refine Nx.zo ?_; first | refine Nx.opr rfl rfl ?_ | refine Nx.so ?_ | refine Nx.sb (fun bx => ?_) | refine Nx.sa (fun A2 c2 => ?_))
      | ((with_reducible refine Nx.is_at ?_); first | refine Nx.a ?_ | refine Nx.zd ?_ | refine Nx.zs (fun hc => ?_) (fun hc => ?_))
      | ((with_reducible refine Nx.is_mix ?_); first | refine Nx.m ?_ | refine Nx.zm ?_ | refine Nx.zt (fun hc => ?_) (fun hc => ?_))
      | refine Nx.zx ?_ | fail
    exact Nx.weak (by exact ⟨rfl, rfl, rfl, rfl, rfl, rfl, rfl, rfl, trivial⟩) (by unfold iR; rw [List.length_append, List.length_append, List.map_append, List.map_append]; (exact Ent.auto)) (h A2 c2 A3 c3)
end Go.Proofs.YtjnhoemgceghlaaGreat
/- Contracts of functions of the given program, and lemmas about plain lists and numbers: what the laws of this seat lean on. -/
namespace Go.Proofs.YtjnhoemgceghlaaGreat
open Go.Eng Go.Sol
attribute [local irreducible] opK wpList Code.wp Exit.then Exit.inBlock fnPost bodyPost Nx Calls Oper.wp Rd Rds Wr Ent Stars Blk Again Vec FnSpec wpMix QRun Stop Upto wpAt
/-! The problem at the start: what it is -/
abbrev rwR (r : Row) : Res := iR r.1 r.2.1 r.2.2
theorem nil_rwR (n : Nat) {R : List Res} : Ent R (Stars ((List.replicate n ((none, 0, []) : Row)).map rwR) :: R) := by
  induction n with
  | zero => exact Ent.stars_nil _
  | succ n ih =>
    rw [List.replicate_succ']
    rw [List.map_append]
    exact ih.trans ((Ent.vec_nil _ _ _).trans Ent.bundle)
theorem inL_snoc (L : List Eqn) (q : Eqn) (c : Nat) : inL (L ++ [q]) c = inL L c ++ if c ∈ q.1 then [(L.length : Int)] else [] := by
  unfold inL
  rw [List.length_append, List.length_singleton, List.range_succ, List.filter_append, List.map_append]
  congr 1
  · congr 1
    refine List.filter_congr fun i hi => ?_
    have hi := List.mem_range.1 hi
    rw [List.getD_eq_getElem?_getD, List.getD_eq_getElem?_getD, List.getElem?_append_left hi]
  · have e : (L ++ [q]).getD L.length default = q := by rw [List.getD_eq_getElem?_getD, List.getElem?_append_right (Nat.le_refl _)]; simp
    by_cases h : c ∈ q.1
    · rw [if_pos h, List.filter_cons_of_pos (by rw [e]; exact decide_eq_true h)]; rfl
    · rw [if_neg h, List.filter_cons_of_neg (by rw [e]; simpa using h)]; rfl
theorem eqns_len (l : List EqR) : (eqns l).length = l.length := List.length_map _
theorem eqns_snoc {l : List EqR} {k : Nat} (h : k < l.length) : eqns (l.take (k + 1)) = eqns (l.take k) ++ [eqn (l.getD k default)] := by unfold eqns; rw [take_snocQ h, List.map_append]; rfl
theorem mem_eqn {n : Nat} {q : EqR} (hg : GoodE n q) {c : Nat} : c ∈ (eqn q).1 ↔ (c : Int) ∈ q.1.2.2 := by
  unfold eqn
  rw [List.mem_map]
  constructor
  · rintro ⟨x, hx, rfl⟩
    have := (hg.lt x hx).1
    rw [show ((x.toNat : Nat) : Int) = x by omega]; exact hx
  · intro h
    exact ⟨_, h, Int.toNat_natCast c⟩
theorem sumC_zero (n : Nat) : ∀ cs, sumC (List.replicate n 0) cs = 0
  | [] => rfl
  | c :: cs => by
    rw [sumC, sumC_zero n cs]
    rw [List.getD_eq_getElem?_getD, List.getElem?_replicate]
    split <;> rfl
def valsL (l : List EqR) : List Int := l.map (·.2)
def sizesL (l : List EqR) : List Int := l.map fun q => (q.1.2.2.length : Int)
theorem rest_start (n : Nat) (l : List EqR) : restL (eqns l) (List.replicate n 0) = valsL l := by
  unfold restL eqns valsL
  rw [List.map_map]
  refine List.map_congr_left fun q _ => ?_
  show q.2 - sumC _ _ = q.2
  rw [sumC_zero]; omega
theorem open_start {n : Nat} {l : List EqR} (hg : ∀ q ∈ l, GoodE n q) : openL (eqns l) (touch n (eqns l)) = sizesL l := by
  unfold openL sizesL
  rw [show eqns l = l.map eqn from rfl, List.map_map]
  refine List.map_congr_left fun q hq => ?_
  show ((openQ _ (eqn q) : Nat) : Int) = _
  unfold openQ
  rw [List.filter_eq_self.2 fun c hc => ?_]
  · show (((q.1.2.2.map Int.toNat).length : Nat) : Int) = _
    rw [List.length_map]
  · refine decide_eq_true (mem_touch.2 ⟨?_, eqn q, List.mem_map.2 ⟨q, hq, rfl⟩, hc⟩)
    have := (hg q hq).lt _ ((mem_eqn (hg q hq)).1 hc)
    omega
/-- What 'start' leaves. -/
def StartPost (n : Nat) (l : List EqR) (v : Value) (R' : List Res) : Prop :=
  ∃ (p : Pl) (Atd : Option Addr) (ctd : Nat) (Ai : Option Addr) (ci : Nat) (ins : List Row), v = .pointer (some ⟨p.b, 0, none⟩) ∧ p.tv = .slice Atd (touch n (eqns l)).length ctd ∧ p.iv = .slice Ai n ci ∧ ins.length = n ∧ (∀ c, c < n → (ins.getD c default).2.2 = inL (eqns l) c) ∧
    R' = [p.blk n l.length, iR p.Ar p.cr (valsL l), iR p.Ao p.co (sizesL l), iR p.At p.ct (List.replicate n 0), Vec 25 1 Ai n ci (ins.map rowV), Stars (ins.map rwR), iR Atd ctd ((touch n (eqns l)).map Int.ofNat)]
theorem vals_snoc {l : List EqR} {k : Nat} (h : k < l.length) : valsL (l.take (k + 1)) = valsL (l.take k) ++ [(l.getD k default).2] := by unfold valsL; rw [take_snocQ h, List.map_append]; rfl
theorem sizes_snoc {l : List EqR} {k : Nat} (h : k < l.length) : sizesL (l.take (k + 1)) = sizesL (l.take k) ++ [((l.getD k default).1.2.2.length : Int)] := by unfold sizesL; rw [take_snocQ h, List.map_append]; rfl
theorem vals_len (l : List EqR) : (valsL l).length = l.length := List.length_map _
theorem sizes_len (l : List EqR) : (sizesL l).length = l.length := List.length_map _
set_option maxRecDepth 10000 in
set_option maxHeartbeats 8000000 in
theorem start_tail (w : World) (F : Res) (A : Option Addr) (c : Nat) (l : List EqR) (n : Nat) (I : PH) (hl : Eqs I A c l) (hg : ∀ q ∈ l, GoodE n q) (hll : l.length ≤ 100000) (At : Option Addr) (ct bi bt b : Nat) :
    Nx ⟨Tryz.prog, 75, w⟩ [(0, .int .i64 (n : Int)), (1, .slice A l.length c), (5, .pointer (some ⟨b, 0, none⟩))] I [Blk b PT [.slice At (touch n (eqns l)).length ct, .slice (some ⟨bi, 0, none⟩) n n, .slice none 0 0, .slice none 0 0, .slice (some ⟨bt, 0, none⟩) n n], iR At ct ((touch n (eqns l)).map Int.ofNat), Vec 25 1 (some ⟨bi, 0, none⟩) n n (List.replicate n (.slice none 0 0)), Vec 3 1 (some ⟨bt, 0, none⟩) n n ((List.replicate n (0 : Int)).map (Value.int .i64)), F]
      (Code.wp Tryz.prog (cr (cr (bodyOf Tryz.f122))) (fnPost Tryz.prog Tryz.f122 I F w (StartPost n l))) := by
  have hlen := hl.len
  repeat' first
    | ((with_reducible refine Nx.is_wp ?_); first | refine Nx.wo ?_ | refine Nx.zp (fun hc => ?_) (fun hc => ?_))
    | (refine Nx.zo ?_; first | refine Nx.opr rfl rfl ?_ | refine Nx.so ?_ | refine Nx.sb (fun bx => ?_) | refine Nx.sa (fun A2 c2 => ?_))
    | ((with_reducible refine Nx.is_at ?_); first | refine Nx.a ?_ | refine Nx.zd ?_ | refine Nx.zs (fun hc => ?_) (fun hc => ?_))
    | ((with_reducible refine Nx.is_mix ?_); first | refine Nx.m ?_ | refine Nx.zm ?_ | refine Nx.zt (fun hc => ?_) (fun hc => ?_))
    | refine Nx.zx ?_ | fail
  refine Nx.p_loop (σ := Nat × Option Addr × Nat × Option Addr × Nat × List Row) (fun s => [(0, .int .i64 (n : Int)), (1, .slice A l.length c), (5, .pointer (some ⟨b, 0, none⟩)), (19, .slice A l.length c), (20, .int .i64 l.length), (21, .int .i64 (s.1 : Int))])
    (fun s => [Blk b PT [.slice At (touch n (eqns l)).length ct, .slice (some ⟨bi, 0, none⟩) n n, .slice s.2.1 (valsL (l.take s.1)).length s.2.2.1, .slice s.2.2.2.1 (sizesL (l.take s.1)).length s.2.2.2.2.1, .slice (some ⟨bt, 0, none⟩) n n], iR s.2.1 s.2.2.1 (valsL (l.take s.1)), iR s.2.2.2.1 s.2.2.2.2.1 (sizesL (l.take s.1)), Vec 25 1 (some ⟨bi, 0, none⟩) n n (s.2.2.2.2.2.map rowV), Stars (s.2.2.2.2.2.map rwR), iR At ct ((touch n (eqns l)).map Int.ofNat), Vec 3 1 (some ⟨bt, 0, none⟩) n n ((List.replicate n (0 : Int)).map (Value.int .i64)), F])
    (fun s => s.1 ≤ l.length ∧ s.2.2.2.2.2.length = n ∧ ∀ x, x < n → (s.2.2.2.2.2.getD x default).2.2 = inL (eqns (l.take s.1)) x) (fun s => l.length - s.1) (0, none, 0, none, 0, List.replicate n (none, 0, [])) rfl ⟨Nat.zero_le _, by simp, fun x hx => by rw [List.getD_eq_getElem?_getD, List.getElem?_replicate, if_pos hx]; rfl⟩ ⟨rfl, rfl, rfl, rfl, rfl, rfl, trivial⟩ ?_ ?_
  · have e0 : (List.replicate n ((none, 0, []) : Row)).map rowV = List.replicate n (.slice none 0 0) := by rw [List.map_replicate]; rfl
    dsimp only
    rw [e0]
    exact (nil_rwR n).trans ((Ent.vec_nil _ _ _).trans ((Ent.vec_nil _ _ _).trans (by (exact Ent.auto))))
  rintro ⟨k, Ar, crr, Ao, coo, ins⟩ ⟨hk, hil, hins⟩
  dsimp only at hk hil hins ⊢
  by_cases hlt : k < l.length
  case neg =>
    obtain rfl : k = l.length := by omega
    rw [List.take_length] at hins ⊢
    repeat' first
      | ((with_reducible refine Nx.is_wp ?_); first | refine Nx.wo ?_ | refine Nx.zp (fun hc => ?_) (fun hc => ?_))
      | (refine Nx.zo ?_; first | refine Nx.opr rfl rfl ?_ | refine Nx.so ?_ | refine Nx.sb (fun bx => ?_) | refine Nx.sa (fun A2 c2 => ?_))
      | ((with_reducible refine Nx.is_at ?_); first | refine Nx.a ?_ | refine Nx.zd ?_ | refine Nx.zs (fun hc => ?_) (fun hc => ?_))
      | ((with_reducible refine Nx.is_mix ?_); first | refine Nx.m ?_ | refine Nx.zm ?_ | refine Nx.zt (fun hc => ?_) (fun hc => ?_))
      | refine Nx.zx ?_ | fail
    refine Nx.ret_fn rfl [_, _, _, _, _, _, _] ⟨⟨b, _, _, Ar, crr, Ao, coo, some ⟨bt, 0, none⟩, n⟩, At, ct, some ⟨bi, 0, none⟩, n, ins, rfl, rfl, rfl, hil, hins, rfl⟩ ?_
    unfold Pl.blk iR
    rw [vals_len, sizes_len, List.length_replicate]
    (exact Ent.auto)
  have hin := hl.inner _ (getD_memQ hlt)
  have hgk := hg _ (getD_memQ hlt)
  have hvs := vals_snoc hlt
  have hss := sizes_snoc hlt
  have hes := eqns_snoc hlt
  have hrds : ∀ (W : World) (R : List Res), Rds W I R ((ad A).add (k * 2)) (eqC (l.getD k default)) := fun W R => hl.outer.rds hlt
  generalize l.getD k default = q at *
  obtain ⟨⟨Ax, cx, ix⟩, z⟩ := q
  dsimp only at hin hvs hss
  replace hrds : ∀ (W : World) (R : List Res), Rds W I R ((ad A).add (k * 2)) [.slice Ax ix.length cx, .int .i64 z] := hrds
  have hixl := hin.len
  repeat' first
    | ((with_reducible refine Nx.is_wp ?_); first | refine Nx.wo ?_ | refine Nx.zp (fun hc => ?_) (fun hc => ?_))
    | (refine Nx.zo ?_; first | refine Nx.opr rfl rfl ?_ | refine Nx.indexAddr_nat rfl rfl rfl rfl rfl (by omega) (hl.outer.isSome (by omega) (by omega)) ?_ | refine Nx.loads rfl rfl rfl rfl (hrds _ _) rfl ?_ | refine Nx.so ?_ | refine Nx.sb (fun bx => ?_) | refine Nx.sa (fun A2 c2 => ?_))
    | ((with_reducible refine Nx.is_at ?_); first | refine Nx.a ?_ | refine Nx.zd ?_ | refine Nx.zs (fun hc => ?_) (fun hc => ?_))
    | ((with_reducible refine Nx.is_mix ?_); first | refine Nx.m ?_ | refine Nx.zm ?_ | refine Nx.zt (fun hc => ?_) (fun hc => ?_))
    | refine Nx.zx ?_ | fail
  revert bx; intro b7
  have hvl : (valsL (l.take k)).length ≤ 1000000 := by rw [vals_len, List.length_take]; omega
  have hsl : (sizesL (l.take k)).length ≤ 1000000 := by rw [sizes_len, List.length_take]; omega
  refine Nx.weak (e' := [(0, .int .i64 (n : Int)), (1, .slice A l.length c), (5, .pointer (some ⟨b, 0, none⟩)), (6, .int .i64 (k : Int)), (7, .pointer (some ⟨b7, 0, none⟩)), (19, .slice A l.length c), (20, .int .i64 (l.length : Int)), (21, .int .i64 (k : Int))]) (by exact ⟨rfl, rfl, rfl, rfl, rfl, rfl, rfl, rfl, trivial⟩)
    (R' := Blk b PT [.slice At (touch n (eqns l)).length ct, .slice (some ⟨bi, 0, none⟩) n n, .slice Ar (valsL (l.take k)).length crr, .slice Ao (sizesL (l.take k)).length coo, .slice (some ⟨bt, 0, none⟩) n n] :: Blk b7 140 [.slice Ax ix.length cx, .int .i64 z] :: iR Ar crr (valsL (l.take k)) :: iR Ao coo (sizesL (l.take k)) :: [Vec 25 1 (some ⟨bi, 0, none⟩) n n (ins.map rowV), Stars (ins.map rwR), iR At ct ((touch n (eqns l)).map Int.ofNat), Vec 3 1 (some ⟨bt, 0, none⟩) n n ((List.replicate n (0 : Int)).map (Value.int .i64)), F]) (by (exact Ent.auto))
    (start_r5 w _ _ (by repeat first | exact PanicOk.fn | refine PanicOk.then_ ?_ | refine PanicOk.inB ?_) [Vec 25 1 (some ⟨bi, 0, none⟩) n n (ins.map rowV), Stars (ins.map rwR), iR At ct ((touch n (eqns l)).map Int.ofNat), Vec 3 1 (some ⟨bt, 0, none⟩) n n ((List.replicate n (0 : Int)).map (Value.int .i64)), F] (.int .i64 (n : Int)) (.slice A l.length c) (.slice A l.length c) (.slice At (touch n (eqns l)).length ct) (.slice (some ⟨bi, 0, none⟩) n n) (.slice (some ⟨bt, 0, none⟩) n n) b b7 l.length k k Ar Ao Ax crr coo cx (valsL (l.take k)) (sizesL (l.take k)) ix z I hvl hsl fun A7 c7 A8 c8 => ?_)
  rw [← hvs, ← hss]
  repeat' first
    | ((with_reducible refine Nx.is_wp ?_); first | refine Nx.wo ?_ | refine Nx.zp (fun hc => ?_) (fun hc => ?_))
    | (refine Nx.zo ?_; first | refine Nx.opr rfl rfl ?_ | refine Nx.so ?_ | refine Nx.sb (fun bx => ?_) | refine Nx.sa (fun A2 c2 => ?_))
    | ((with_reducible refine Nx.is_at ?_); first | refine Nx.a ?_ | refine Nx.zd ?_ | refine Nx.zs (fun hc => ?_) (fun hc => ?_))
    | ((with_reducible refine Nx.is_mix ?_); first | refine Nx.m ?_ | refine Nx.zm ?_ | refine Nx.zt (fun hc => ?_) (fun hc => ?_))
    | refine Nx.zx ?_ | fail
  refine Nx.p_loop (σ := Nat × List Row) (fun s => [(0, .int .i64 (n : Int)), (1, .slice A l.length c), (5, .pointer (some ⟨b, 0, none⟩)), (6, .int .i64 (k : Int)), (19, .slice A l.length c), (20, .int .i64 l.length), (21, .int .i64 (k : Int)), (50, .slice Ax ix.length cx), (51, .int .i64 ix.length), (52, .int .i64 (s.1 : Int))])
    (fun s => [Blk b PT [.slice At (touch n (eqns l)).length ct, .slice (some ⟨bi, 0, none⟩) n n, .slice A7 (valsL (l.take (k + 1))).length c7, .slice A8 (sizesL (l.take (k + 1))).length c8, .slice (some ⟨bt, 0, none⟩) n n], iR A7 c7 (valsL (l.take (k + 1))), iR A8 c8 (sizesL (l.take (k + 1))), Vec 25 1 (some ⟨bi, 0, none⟩) n n (s.2.map rowV), Stars (s.2.map rwR), iR At ct ((touch n (eqns l)).map Int.ofNat), Vec 3 1 (some ⟨bt, 0, none⟩) n n ((List.replicate n (0 : Int)).map (Value.int .i64)), F])
    (fun s => s.1 ≤ ix.length ∧ s.2.length = n ∧ ∀ x, x < n → (s.2.getD x default).2.2 = inL (eqns (l.take k)) x ++ if (x : Int) ∈ ix.take s.1 then [(k : Int)] else []) (fun s => ix.length - s.1) (0, ins) rfl ⟨Nat.zero_le _, hil, fun x hx => by rw [hins x hx]; simp⟩ ⟨rfl, rfl, rfl, rfl, rfl, rfl, rfl, rfl, rfl, rfl, trivial⟩ (by (exact Ent.auto)) ?_
  rintro ⟨j, o⟩ ⟨hj, hol, ho⟩
  dsimp only at hj hol ho ⊢
  by_cases hjl : j < ix.length
  case neg =>
    obtain rfl : j = ix.length := by omega
    repeat' first
      | ((with_reducible refine Nx.is_wp ?_); first | refine Nx.wo ?_ | refine Nx.zp (fun hc => ?_) (fun hc => ?_))
      | (refine Nx.zo ?_; first | refine Nx.opr rfl rfl ?_ | refine Nx.so ?_ | refine Nx.sb (fun bx => ?_) | refine Nx.sa (fun A2 c2 => ?_))
      | ((with_reducible refine Nx.is_at ?_); first | refine Nx.a ?_ | refine Nx.zd ?_ | refine Nx.zs (fun hc => ?_) (fun hc => ?_))
      | ((with_reducible refine Nx.is_mix ?_); first | refine Nx.m ?_ | refine Nx.zm ?_ | refine Nx.zt (fun hc => ?_) (fun hc => ?_))
      | refine Nx.zx ?_ | fail
    refine Nx.again (k + 1, A7, c7, A8, c8, o) ⟨hlt, hol, fun x hx => ?_⟩ (by dsimp only; omega) ⟨rfl, rfl, rfl, rfl, rfl, rfl, trivial⟩ (by (exact Ent.auto))
    dsimp only
    rw [ho x hx, hes, inL_snoc, List.take_length, eqns_len, List.length_take, Nat.min_eq_left (by omega)]
    congr 1
    by_cases hm : (x : Int) ∈ ix
    · rw [if_pos hm, if_pos ((mem_eqn hgk).2 hm)]
    · rw [if_neg hm, if_neg fun h => hm ((mem_eqn hgk).1 h)]
  have hixj := hgk.lt (ix.getD j default) (by rw [List.getD_eq_getElem?_getD, List.getElem?_eq_getElem hjl]; exact List.getElem_mem _)
  obtain ⟨y, hy⟩ : ∃ y : Nat, ix.getD j default = (y : Int) := ⟨(ix.getD j default).toNat, by omega⟩
  have hyn : y < n := by omega
  have hixr : ∀ (W : World) (R : List Res), Rd W I R ((ad Ax).add (j * 1)) (.int .i64 (y : Int)) := fun W R => by rw [← hy]; exact hin.rd hjl
  have hoy := ho y hyn
  have hget : (o.map rwR)[y]? = some (rwR (o.getD y default)) := by
    rw [List.getElem?_map, List.getElem?_eq_getElem (by omega), List.getD_eq_getElem?_getD, List.getElem?_eq_getElem (by omega)]; rfl
  have hrv : ∀ (W : World) (R : List Res), Rd W I (Vec 25 1 (some ⟨bi, 0, none⟩) n n (o.map rowV) :: R) ((ad (some ⟨bi, 0, none⟩)).add (y * 1)) (rowV (o.getD y default)) := fun W R => Rd.vecEl 0 (f := rowV) (l := o) (i := y) rfl (by omega)
  have hyj : (y : Int) ∉ ix.take j := fun hm => by
    obtain ⟨a, ha, he⟩ := List.mem_iff_getElem.1 hm
    rw [List.length_take] at ha
    rw [List.getElem_take] at he
    have hlt2 := (List.pairwise_iff_getElem.1 hgk.asc) a j (by dsimp only; omega) hjl (by omega)
    dsimp only at hlt2
    rw [List.getD_eq_getElem?_getD, List.getElem?_eq_getElem hjl] at hy
    have hy : ix[j] = (y : Int) := hy
    omega
  rw [if_neg hyj, List.append_nil] at hoy
  have hrow9 := inL_len (eqns (l.take k)) y
  rw [← hoy, eqns_len, List.length_take] at hrow9
  refine Nx.ent (R' := [Stars (o.map rwR), Vec 25 1 (some ⟨bi, 0, none⟩) n n (o.map rowV), Blk b PT [.slice At (touch n (eqns l)).length ct, .slice (some ⟨bi, 0, none⟩) n n, .slice A7 (valsL (l.take (k + 1))).length c7, .slice A8 (sizesL (l.take (k + 1))).length c8, .slice (some ⟨bt, 0, none⟩) n n], iR A7 c7 (valsL (l.take (k + 1))), iR A8 c8 (sizesL (l.take (k + 1))), iR At ct ((touch n (eqns l)).map Int.ofNat), Vec 3 1 (some ⟨bt, 0, none⟩) n n ((List.replicate n (0 : Int)).map (Value.int .i64)), F]) (by (exact Ent.auto)) ?_
  refine Nx.ent (Ent.takeOut y hget) ?_
  generalize hrow' : o.getD y default = rw' at hoy hget hrv hrow9
  obtain ⟨Ay, cy, row⟩ := rw'
  dsimp only at hoy hrow9
  replace hrv : ∀ (W : World) (R : List Res), Rd W I (Vec 25 1 (some ⟨bi, 0, none⟩) n n (o.map rowV) :: R) ((ad (some ⟨bi, 0, none⟩)).add (y * 1)) (.slice Ay row.length cy) := hrv
  refine Nx.ent (R' := [Vec 3 1 Ay row.length cy (row.map (Value.int .i64)), Vec 25 1 (some ⟨bi, 0, none⟩) n n (o.map rowV), Stars ((o.map rwR).eraseIdx y), Blk b PT [.slice At (touch n (eqns l)).length ct, .slice (some ⟨bi, 0, none⟩) n n, .slice A7 (valsL (l.take (k + 1))).length c7, .slice A8 (sizesL (l.take (k + 1))).length c8, .slice (some ⟨bt, 0, none⟩) n n], iR A7 c7 (valsL (l.take (k + 1))), iR A8 c8 (sizesL (l.take (k + 1))), iR At ct ((touch n (eqns l)).map Int.ofNat), Vec 3 1 (some ⟨bt, 0, none⟩) n n ((List.replicate n (0 : Int)).map (Value.int .i64)), F]) (by unfold rwR iR; (exact Ent.auto)) ?_
  repeat' first
    | ((with_reducible refine Nx.is_wp ?_); first | refine Nx.wo ?_ | refine Nx.p_drawF (id := 9) rfl [0, 1, 2, 3, 4, 5, 6, 7, 8, 9, 10, 11, 12, 13, 14, 15] [13, 14] [16] _ rfl rfl (by kernel_rfl) (by kernel_rfl) rfl (by repeat first | exact PanicOk.fn | refine PanicOk.then_ ?_ | refine PanicOk.inB ?_) (Ent.eraseK 0 _) ?_ | refine Nx.zp (fun hc => ?_) (fun hc => ?_))
    | (refine Nx.zo ?_; first | refine Nx.opr rfl rfl ?_ | refine Nx.indexAddr_nat rfl rfl rfl rfl rfl (by omega) (hin.isSome (by omega)) ?_ | refine Nx.load rfl rfl rfl (hixr _ _) ?_ | refine Nx.store_of 1 rowV (z := (A2, c2, row ++ [(k : Int)])) rfl (by unfold rowV; dsimp only; rw [List.length_append]; rfl) rfl rfl rfl rfl (by omega) ?_ | refine Nx.so ?_ | refine Nx.sb (fun bx => ?_) | refine Nx.sa (fun A2 c2 => ?_))
    | ((with_reducible refine Nx.is_at ?_); first | refine Nx.a ?_ | refine Nx.zd ?_ | refine Nx.zs (fun hc => ?_) (fun hc => ?_))
    | ((with_reducible refine Nx.is_mix ?_); first | refine Nx.m_quiet rfl rfl rfl rfl rfl (by first | exact QRun.opr rfl | exact QRun.idx rfl rfl rfl rfl (by omega) rfl | exact QRun.load rfl rfl (hrv _ _)) ?_ | refine Nx.m_quiet_do rfl rfl rfl rfl rfl rfl rfl (by first | exact QRun.opr rfl | exact QRun.idx rfl rfl rfl rfl (by omega) rfl | exact QRun.load rfl rfl (hrv _ _)) ?_ | refine Nx.m ?_ | refine Nx.zm ?_ | refine Nx.zt (fun hc => ?_) (fun hc => ?_))
    | refine Nx.zx ?_ | fail
  refine Nx.again (j + 1, o.set y (A2, c2, row ++ [(k : Int)])) ⟨hjl, by dsimp only; rw [List.length_set]; exact hol, fun x hx => ?_⟩ (by dsimp only; omega) ⟨rfl, rfl, rfl, rfl, rfl, rfl, rfl, rfl, rfl, rfl, trivial⟩ ?_
  · dsimp only
    rw [take_snocJ hjl, hy]
    by_cases hxy : x = y
    · subst hxy
      rw [List.getD_eq_getElem?_getD, List.getElem?_set_self (by omega), if_pos (by simp), ← hoy]
      rfl
    · rw [List.getD_eq_getElem?_getD, List.getElem?_set_ne (Ne.symm hxy), ← List.getD_eq_getElem?_getD, ho x hx]
      congr 1
      have e : ((x : Int) ∈ ix.take j ++ [(y : Int)]) ↔ (x : Int) ∈ ix.take j := by
        rw [List.mem_append, List.mem_singleton]
        exact ⟨fun h => h.resolve_right (by omega), .inl⟩
      by_cases hm : (x : Int) ∈ ix.take j
      · rw [if_pos hm, if_pos (e.2 hm)]
      · rw [if_neg hm, if_neg fun h => hm (e.1 h)]
  · dsimp only
    have hS : (o.set y (A2, c2, row ++ [(k : Int)])).map rwR = (o.map rwR).set y (rwR (A2, c2, row ++ [(k : Int)])) := List.map_set
    rw [hS]
    have hput := Ent.putIn y (B := o.map rwR) (R := [Blk b PT [.slice At (touch n (eqns l)).length ct, .slice (some ⟨bi, 0, none⟩) n n, .slice A7 (valsL (l.take (k + 1))).length c7, .slice A8 (sizesL (l.take (k + 1))).length c8, .slice (some ⟨bt, 0, none⟩) n n], iR A7 c7 (valsL (l.take (k + 1))), iR A8 c8 (sizesL (l.take (k + 1))), Vec 25 1 (some ⟨bi, 0, none⟩) n n ((o.set y (A2, c2, row ++ [(k : Int)])).map rowV), iR At ct ((touch n (eqns l)).map Int.ofNat), Vec 3 1 (some ⟨bt, 0, none⟩) n n ((List.replicate n (0 : Int)).map (Value.int .i64)), F]) (r := rwR (A2, c2, row ++ [(k : Int)])) (by rw [List.length_map]; omega)
    refine Ent.trans ?_ (hput.trans (by (exact Ent.auto)))
    unfold rwR iR
    dsimp only
    rw [List.length_append, List.map_append]
    (exact Ent.auto)
set_option maxRecDepth 10000 in
set_option maxHeartbeats 8000000 in
theorem start_spec (A : Option Addr) (c : Nat) (l : List EqR) (n : Nat) (I : PH) (hl : Eqs I A c l) (hg : ∀ q ∈ l, GoodE n q) (hn : n ≤ 4096) (hll : l.length ≤ 100000) (h9 : (allC l).length ≤ 1000000) :
    FnSpec Tryz.prog 122 [.int .i64 (n : Int), .slice A l.length c] I [] (StartPost n l) := by
  refine FnSpec.enterP Tryz.func122 rfl Tryz.ntmps122 rfl fun w F => ?_
  repeat' first
    | ((with_reducible refine Nx.is_wp ?_); first | refine Nx.wo ?_ | refine Nx.zp (fun hc => ?_) (fun hc => ?_))
    | (refine Nx.zo ?_; first | refine Nx.opr rfl rfl ?_ | refine Nx.so ?_ | refine Nx.sb (fun bx => ?_) | refine Nx.sa (fun A2 c2 => ?_))
    | ((with_reducible refine Nx.is_at ?_); first | refine Nx.a ?_ | refine Nx.zd ?_ | refine Nx.zs (fun hc => ?_) (fun hc => ?_))
    | ((with_reducible refine Nx.is_mix ?_); first | refine Nx.m ?_ | refine Nx.zm ?_ | refine Nx.zt (fun hc => ?_) (fun hc => ?_))
    | refine Nx.zx ?_ | fail
  exact Nx.weak (by exact ⟨rfl, rfl, trivial⟩) (by (exact Ent.auto)) (start_r1 w _ _ (by repeat first | exact PanicOk.fn | refine PanicOk.then_ ?_ | refine PanicOk.inB ?_) F A c l n I hl hg hn h9 fun At ct bi bt b => start_tail w F A c l n I hl hg hll At ct bi bt b)
end Go.Proofs.YtjnhoemgceghlaaGreat
/- Contracts of functions of the given program, and lemmas about plain lists and numbers: what the laws of this seat lean on. -/
namespace Go.Proofs.YtjnhoemgceghlaaGreat
open Go.Eng Go.Sol
attribute [local irreducible] opK wpList Code.wp Exit.then Exit.inBlock fnPost bodyPost Nx Calls Oper.wp Rd Rds Wr Ent Stars Blk Again Vec FnSpec wpMix QRun Stop Upto wpAt
theorem unstopN {C : Cx} {e : Env} {I : PH} {R : List Res} {K : Act → World → Prop} (h : Nx C e I R K) : Nx C e I R (Stop K) := by unfold Stop; exact h
/-! The problem is given up, but for what is left of the equations and the table -/
theorem started {C : Cx} {e : Env} {I : PH} {R RR : List Res} {K : Act → World → Prop} {p : Pl} {Atd Ai : Option Addr} {ctd ci n : Nat} {ins : List Row} {L : List Eqn} {td : List Nat} (hiv : p.iv = .slice Ai n ci) (hil : ins.length = n) (hins : ∀ c, c < n → (ins.getD c default).2.2 = inL L c)
    (hR : Ent R (Vec 25 1 Ai n ci (ins.map rowV) :: Stars (ins.map rwR) :: iR Atd ctd (td.map Int.ofNat) :: RR)) (h : ∀ I', PH.le I I' → InI I' p n L → Ints I' Atd ctd (td.map Int.ofNat) → Nx C e I' RR K) : Nx C e I R K := by
  refine Nx.ent hR ?_
  refine Nx.freezeAt 0 rfl fun I1 m1 hI1 hm1 h1 => ?_
  refine Nx.freezeAt 0 rfl fun I2 m2 hI2 hm2 h2 => ?_
  refine Nx.freezeAt 0 rfl fun I3 m3 hI3 hm3 h3 => ?_
  subst hil
  refine h I3 ((hI1.trans hI2).trans hI3) ⟨Ai, ci, ins, hiv, rfl, Vec.sliceOf ((hm1.trans hI2).trans hI3) h1, fun x hx => ?_, hins⟩ (Vec.sliceOf hm3 h3)
  obtain ⟨k, hk, rfl⟩ := List.mem_iff_getElem.1 hx
  obtain ⟨m', hle, hr⟩ := Stars.get k h2 (r := rwR ins[k]) (by rw [nthL_eq, List.getElem?_map, List.getElem?_eq_getElem hk]; rfl)
  exact Vec.sliceOf (t := 3) (hle.trans (hm2.trans hI3)) hr
/-! The functions that are shown the solutions -/
abbrev someT (bo : Nat) (s : Option Addr × Nat × List Row) : Res := Stars [Blk bo 33 [.slice s.1 s.2.2.length s.2.1], Vec 25 1 s.1 s.2.2.length s.2.1 (s.2.2.map rowV), Stars (s.2.2.map rwR)]
def someP (s : Option Addr × Nat × List Row) : List (List Int) := s.2.2.map (·.2.2)
def someF (most : Int) (p : List (List Int)) (tab : List Int) : List (List Int) × Bool := (p ++ [tab], decide ((p.length : Int) + 1 < most))
set_option maxRecDepth 10000 in
set_option maxHeartbeats 4000000 in
theorem someF_spec (bo bm : Nat) (most : Int) (hm : most ≤ 1000000) (I : PH) (n : Nat) (hb : ∀ (W : World) (R : List Res), Rd W I R ⟨bm, 0, none⟩ (.int .i64 most)) :
    Found 124 [.pointer (some ⟨bo, 0, none⟩), .pointer (some ⟨bm, 0, none⟩)] I n (someT bo) someP (fun p => (p.length : Int) < most) (someF most) := by
  refine ⟨by kernel_rfl, fun s A c tab htl hok => ?_⟩
  obtain ⟨A1, c1, o⟩ := s
  have hol : (o.length : Int) < most := by unfold someP at hok; rw [List.length_map] at hok; exact hok
  have e1 : someF most (someP (A1, c1, o)) tab = (someP (A1, c1, o) ++ [tab], decide ((o.length : Int) + 1 < most)) := by unfold someF someP; rw [List.length_map]
  rw [e1]
  refine FnSpec.enterP Tryz.func124 rfl Tryz.ntmps124 rfl fun w F => ?_
  refine Nx.ent (R' := [Blk bo 33 [.slice A1 o.length c1], Vec 25 1 A1 o.length c1 (o.map rowV), Stars (o.map rwR), iR A c tab, F]) (Ent.unstars.trans (by (exact Ent.auto))) ?_
  repeat' first
    | ((with_reducible refine Nx.is_wp ?_); first | refine Nx.wo ?_ | refine Nx.zp (fun hc => ?_) (fun hc => ?_))
    | (refine Nx.zo ?_; first | refine Nx.opr rfl rfl ?_ | refine Nx.load rfl rfl rfl (hb _ _) ?_ | refine Nx.so ?_ | refine Nx.sb (fun bx => ?_) | refine Nx.sa (fun A2 c2 => ?_))
    | ((with_reducible refine Nx.is_at ?_); first | refine Nx.a ?_ | refine Nx.zd ?_ | refine Nx.zs (fun hc => ?_) (fun hc => ?_))
    | ((with_reducible refine Nx.is_mix ?_); first | refine Nx.m ?_ | refine Nx.zm ?_ | refine Nx.zt (fun hc => ?_) (fun hc => ?_))
    | refine Nx.zx ?_ | fail
  refine Nx.ret_fn rfl [someT bo (A2, c2, o ++ [(A, c, tab)])] ⟨congrArg Value.bool (decide_eq_decide.2 (by omega)), (A2, c2, o ++ [(A, c, tab)]), by unfold someP; simp, fun h => ?_, rfl⟩ ?_
  · have h := of_decide_eq_true h
    unfold someP
    simp only [List.length_map, List.length_append, List.length_singleton]
    omega
  · unfold someT
    dsimp only
    rw [List.length_append, List.map_append, List.map_append]
    exact Ent.trans (R' := iR A c tab :: Stars (o.map rwR) :: [Blk bo 33 [.slice A2 (o.length + 1) c2], Vec 25 1 A2 (o.length + 1) c2 (o.map rowV ++ [.slice A tab.length c]), F]) (by (exact Ent.auto)) (Ent.bundle.trans (Ent.trans (R' := [Blk bo 33 [.slice A2 (o.length + 1) c2], Vec 25 1 A2 (o.length + 1) c2 (o.map rowV ++ [.slice A tab.length c]), Stars (o.map rwR ++ [iR A c tab])] ++ [F]) (by (exact Ent.auto)) Ent.stars))
abbrev extT (bo : Nat) (s : Option Addr × Nat × List Int) : Res := Stars [Blk bo 25 [.slice s.1 s.2.2.length s.2.1], iR s.1 s.2.1 s.2.2]
def extP (s : Option Addr × Nat × List Int) : List Int := s.2.2
def extF (_ : List Int) (tab : List Int) : List Int × Bool := (tab, false)
set_option maxRecDepth 10000 in
set_option maxHeartbeats 4000000 in
theorem extF_spec (bo : Nat) (I : PH) (n : Nat) : Found 168 [.pointer (some ⟨bo, 0, none⟩)] I n (extT bo) extP (fun _ => True) extF := by
  refine ⟨by kernel_rfl, fun s A c tab htl _ => ?_⟩
  obtain ⟨A1, c1, o⟩ := s
  refine FnSpec.enterP Tryz.func168 rfl Tryz.ntmps168 rfl fun w F => ?_
  refine Nx.ent (R' := [Blk bo 25 [.slice A1 o.length c1], iR A1 c1 o, iR A c tab, F]) (Ent.unstars.trans (by (exact Ent.auto))) ?_
  repeat' first
    | ((with_reducible refine Nx.is_wp ?_); first | refine Nx.wo ?_ | refine Nx.zp (fun hc => ?_) (fun hc => ?_))
    | (refine Nx.zo ?_; first | refine Nx.opr rfl rfl ?_ | refine Nx.so ?_ | refine Nx.sb (fun bx => ?_) | refine Nx.sa (fun A2 c2 => ?_))
    | ((with_reducible refine Nx.is_at ?_); first | refine Nx.a ?_ | refine Nx.zd ?_ | refine Nx.zs (fun hc => ?_) (fun hc => ?_))
    | ((with_reducible refine Nx.is_mix ?_); first | refine Nx.m ?_ | refine Nx.zm ?_ | refine Nx.zt (fun hc => ?_) (fun hc => ?_))
    | refine Nx.zx ?_ | fail
  exact Nx.ret_fn rfl [extT bo (A, c, tab)] ⟨rfl, (A, c, tab), rfl, fun _ => trivial, rfl⟩ (Ent.trans (R' := [Blk bo 25 [.slice A tab.length c], iR A c tab] ++ [F]) (by (exact Ent.auto)) Ent.stars)
theorem someF_take (most : Nat) : ∀ (L p : List (List Int)), p.length < most → (foldStop (someF most) p L).1 = p ++ L.take (most - p.length)
  | [], p, h => by simp [foldStop]
  | x :: L, p, h => by
    unfold foldStop
    obtain ⟨m, hm⟩ : ∃ m, most - p.length = m + 1 := ⟨most - p.length - 1, by omega⟩
    rw [hm, List.take_succ_cons]
    by_cases hlt : p.length + 1 < most
    · rw [if_pos (show (someF most p x).2 = true from decide_eq_true (by omega))]
      show (foldStop (someF most) (p ++ [x]) L).1 = _
      rw [someF_take most L (p ++ [x]) (by simpa using hlt), List.append_assoc, List.length_append, List.length_singleton, show most - (p.length + 1) = m by omega]
      rfl
    · rw [if_neg (show ¬(someF most p x).2 = true from by unfold someF; simp; omega), show m = 0 by omega]
      rfl
/-- All solutions. -/
def solsOf (n : Nat) (L : List Eqn) : List (List Int) := enum 1000000 L false (touch n L) (List.replicate n 0)
theorem toNat_asc {xs : List Int} (h : xs.Pairwise (· < ·)) (h0 : ∀ x ∈ xs, 0 ≤ x) : (xs.map Int.toNat).Pairwise (· < ·) := by
  rw [List.pairwise_map]
  refine List.Pairwise.imp_of_mem (fun ha hb hab => ?_) h
  have := h0 _ ha; have := h0 _ hb
  omega
theorem eqn_nd {n : Nat} {q : EqR} (hg : GoodE n q) : (eqn q).1.Nodup := (toNat_asc hg.asc fun x hx => (hg.lt x hx).1).imp fun h => Nat.ne_of_lt h
theorem sane_eqns {n : Nat} {l : List EqR} (hg : ∀ q ∈ l, GoodE n q) (hll : l.length ≤ 100000) (h9 : (allC l).length ≤ 100000) : Sane (eqns l) := by
  refine ⟨fun q hq => ?_, by rw [eqns_len]; exact hll, fun q hq => ?_⟩
  · obtain ⟨x, hx, rfl⟩ := List.mem_map.1 hq
    exact eqn_nd (hg x hx)
  · obtain ⟨x, hx, rfl⟩ := List.mem_map.1 hq
    obtain ⟨k, hk, rfl⟩ := List.mem_iff_getElem.1 hx
    have := allC_le1 hk
    rw [show l.getD k default = l[k] by rw [List.getD_eq_getElem?_getD, List.getElem?_eq_getElem hk]; rfl] at this
    refine ⟨(hg _ hx).val.1, (hg _ hx).val.2, ?_⟩
    show (l[k].1.2.2.map Int.toNat).length ≤ _
    rw [List.length_map]; omega
theorem zeros_at (n c : Nat) : (List.replicate n (0 : Int)).getD c 0 = 0 := by
  rw [List.getD_eq_getElem?_getD, List.getElem?_replicate]; split <;> rfl
theorem inv_start {n : Nat} {l : List EqR} (hg : ∀ q ∈ l, GoodE n q) {U : List Nat} (hU : U.Nodup) (hm : ∀ c, c ∈ U ↔ c ∈ touch n (eqns l)) : Inv n (eqns l) U (List.replicate n 0) := by
  refine ⟨by simp, hU, fun c hc => (mem_touch.1 ((hm c).1 hc)).1, fun c _ => zeros_at n c, fun q hq => ?_, fun q hq hop => ?_⟩
  · obtain ⟨x, hx, rfl⟩ := List.mem_map.1 hq
    unfold restQ
    rw [sumC_zero]
    have := (hg x hx).val.1
    show 0 ≤ x.2 - 0
    omega
  · exfalso
    obtain ⟨x, hx, rfl⟩ := List.mem_map.1 hq
    have hne := (hg x hx).ne
    have : (eqn x).1 ≠ [] := by unfold eqn; simpa using hne
    obtain ⟨c, hc⟩ := List.exists_mem_of_ne_nil _ this
    have hcU : c ∈ U := (hm c).2 (mem_touch.2 ⟨by have := (hg x hx).lt _ ((mem_eqn (hg x hx)).1 hc); omega, eqn x, hq, hc⟩)
    unfold openQ at hop
    have := List.length_eq_zero_iff.1 hop
    rw [List.filter_eq_nil_iff] at this
    exact this c hc (decide_eq_true hcU)
theorem open_same {L : List Eqn} {U V : List Nat} (h : ∀ c, c ∈ U ↔ c ∈ V) : openL L U = openL L V := by
  unfold openL openQ
  refine List.map_congr_left fun q _ => ?_
  congr 2
  exact List.filter_congr fun c _ => decide_eq_decide.2 (h c)
set_option maxRecDepth 10000 in
set_option maxHeartbeats 8000000 in
theorem some_spec (A : Option Addr) (c : Nat) (l : List EqR) (n most : Nat) (I : PH) (hl : Eqs I A c l) (hg : ∀ q ∈ l, GoodE n q) (hn : n ≤ 4096) (hll : l.length ≤ 100000) (h9 : (allC l).length ≤ 100000) (hm1 : 1 ≤ most) (hm2 : most ≤ 1000000) :
    FnSpec Tryz.prog 93 [.int .i64 (n : Int), .slice A l.length c, .int .i64 (most : Int)] I []
      (fun v R' => ∃ (A' : Option Addr) (c' : Nat) (o : List Row), v = .slice A' o.length c' ∧ o.map (·.2.2) = (solsOf n (eqns l)).take most ∧ R' = [Vec 25 1 A' o.length c' (o.map rowV), Stars (o.map rwR)]) := by
  have hSt := start_spec A c l n I hl hg hn hll (by omega)
  refine FnSpec.enterP Tryz.func93 rfl Tryz.ntmps93 rfl fun w F => ?_
  repeat' first
    | ((with_reducible refine Nx.is_wp ?_); first | refine Nx.p_stopr 2 rfl ?_ | refine Nx.wo ?_ | refine Nx.zp (fun hc => ?_) (fun hc => ?_))
    | (refine Nx.zo ?_; first | refine Nx.opr rfl rfl ?_ | (refine Nx.call (Rpre := []) rfl rfl rfl (by kernel_rfl) rfl hSt (Ent.refl _) ?_; rintro _ _ ⟨p, Atd, ctd, Ai, ci, ins, rfl, htv, hiv, hil, hins, rfl⟩) | refine Nx.so ?_ | refine Nx.sb (fun bx => ?_) | refine Nx.sa (fun A2 c2 => ?_))
    | ((with_reducible refine Nx.is_at ?_); first | refine Nx.a ?_ | refine Nx.zd ?_ | refine Nx.zs (fun hc => ?_) (fun hc => ?_))
    | ((with_reducible refine Nx.is_mix ?_); first | refine Nx.m ?_ | refine Nx.zm ?_ | refine Nx.zt (fun hc => ?_) (fun hc => ?_))
    | refine Nx.zx ?_ | fail
  refine unstopN ?_
  revert bx; intro bm
  refine started hiv hil hins (RR := [Blk bm 3 [.int .i64 (most : Int)], p.blk n l.length, iR p.Ar p.cr (valsL l), iR p.Ao p.co (sizesL l), iR p.At p.ct (List.replicate n 0), F]) (by (exact Ent.auto)) fun I1 hI1 hin htd => ?_
  refine Nx.freezeAt 0 rfl fun I2 m2 hI2 hm2 h2 => ?_
  have rm : ∀ I', PH.le I2 I' → ∀ (W : World) (R : List Res), Rd W I' R ⟨bm, 0, none⟩ (.int .i64 (most : Int)) := fun I' hI' W R => Rd.imm (cellH_mono (hm2.trans hI') (Blk.cell h2 rfl))
  have hsane := sane_eqns hg hll h9
  have hSe := fun bo => search_spec p n (eqns l) I2 (hin.mono hI2) (fun I' hI' => someF_spec bo bm most (by omega) I' n (rm I' hI')) hsane (by omega) Atd ctd (touch n (eqns l)) (htd.mono hI2) false (none, 0, []) (List.replicate n 0) (inv_start hg (touch_nd _ _) fun _ => Iff.rfl) (fun c => by rw [zeros_at]; exact Int.le_refl _) (show (0 : Int) < most by omega)
  rw [rest_start, open_start hg, eqns_len] at hSe
  unfold Pl.blk at hSe ⊢
  rw [htv] at hSe ⊢
  repeat' first
    | ((with_reducible refine Nx.is_wp ?_); first | refine Nx.p_stopr 3 rfl ?_ | refine Nx.wo ?_ | refine Nx.zp (fun hc => ?_) (fun hc => ?_))
    | (refine Nx.zo ?_; first | refine Nx.opr rfl rfl ?_ | refine Nx.so ?_ | refine Nx.sb (fun bx => ?_) | refine Nx.sa (fun A2 c2 => ?_))
    | ((with_reducible refine Nx.is_at ?_); first | refine Nx.a ?_ | refine Nx.zd ?_ | refine Nx.zs (fun hc => ?_) (fun hc => ?_))
    | ((with_reducible refine Nx.is_mix ?_); first | refine Nx.m ?_ | refine Nx.zm ?_ | refine Nx.zt (fun hc => ?_) (fun hc => ?_))
    | refine Nx.zx ?_ | fail
  refine unstopN ?_
  revert bx; intro bo
  refine Nx.ent (R' := [someT bo (none, 0, []), Blk p.b PT [.slice Atd (touch n (eqns l)).length ctd, p.iv, .slice p.Ar l.length p.cr, .slice p.Ao l.length p.co, .slice p.At n p.ct], iR p.Ar p.cr (valsL l), iR p.Ao p.co (sizesL l), iR p.At p.ct (List.replicate n 0), F])
    ((Ent.stars_nil _).trans ((Ent.vec_nil 25 1 _).trans (Ent.trans (R' := [Blk bo 33 [.slice none 0 0], Vec 25 1 none 0 0 [], Stars []] ++ [Blk p.b PT [.slice Atd (touch n (eqns l)).length ctd, p.iv, .slice p.Ar l.length p.cr, .slice p.Ao l.length p.co, .slice p.At n p.ct], iR p.Ar p.cr (valsL l), iR p.Ao p.co (sizesL l), iR p.At p.ct (List.replicate n 0), F]) (by (exact Ent.auto)) Ent.stars))) ?_
  repeat' first
    | ((with_reducible refine Nx.is_wp ?_); first | refine Nx.wo ?_ | refine Nx.zp (fun hc => ?_) (fun hc => ?_))
    | (refine Nx.zo ?_; first | refine Nx.opr rfl rfl ?_ | (refine Nx.call rfl rfl rfl (by kernel_rfl) rfl (hSe bo) (by (exact Ent.auto)) ?_; rintro _ _ ⟨rfl, s', G, hs', rfl⟩; obtain ⟨A', c', o⟩ := s'; refine Nx.ent (R' := [Blk bo 33 [.slice A' o.length c'], Vec 25 1 A' o.length c' (o.map rowV), Stars (o.map rwR), F]) (Ent.unstars.trans (by (exact Ent.auto))) ?_) | refine Nx.so ?_ | refine Nx.sb (fun bx => ?_) | refine Nx.sa (fun A2 c2 => ?_))
    | ((with_reducible refine Nx.is_at ?_); first | refine Nx.a ?_ | refine Nx.zd ?_ | refine Nx.zs (fun hc => ?_) (fun hc => ?_))
    | ((with_reducible refine Nx.is_mix ?_); first | refine Nx.m ?_ | refine Nx.zm ?_ | refine Nx.zt (fun hc => ?_) (fun hc => ?_))
    | refine Nx.zx ?_ | fail
  exact Nx.imm_le (hI1.trans hI2) (Nx.ret_fn rfl [_, _] ⟨A', c', o, rfl, by have h := someF_take most (solsOf n (eqns l)) [] (by show 0 < most; omega); rw [List.nil_append, List.length_nil, Nat.sub_zero] at h; exact hs'.trans h, rfl⟩ (by (exact Ent.auto)))
end Go.Proofs.YtjnhoemgceghlaaGreat
/- Contracts of functions of the given program, and lemmas about plain lists and numbers: what the laws of this seat lean on. -/
namespace Go.Proofs.YtjnhoemgceghlaaGreat
open Go.Eng Go.Sol
/-! Plain: each published cell has members; what its value is -/
theorem pl_at {l : List Int} {n : Int} {k : Nat} (hk : k < l.length) : (pl l n).getD k default = plAt l n k := map_range_at _ _ _ hk
theorem pl_len (l : List Int) (n : Int) : (pl l n).length = l.length := by simp [pl]
theorem prod_pos {l : List Int} (hs : Sizes l) {k : Nat} (hk : k ≤ l.length) : 0 < prod (l.drop k) := by
  have := prod_drop_pos hs (l.length - k) (by omega)
  rwa [show l.length - (l.length - k) = k by omega] at this
theorem pl_num {l : List Int} {n : Int} (hs : Sizes l) (hn : 0 ≤ n ∧ n < prod l) : ∀ k, k ≤ l.length → numK l (pl l n) k = n / prod (l.drop k)
  | 0, _ => by rw [numK, List.drop_zero, Int.ediv_eq_zero_of_lt hn.1 hn.2]
  | k + 1, hk => by
    have hat := hs.at (k := k) (by omega)
    have hp := prod_pos hs (k := k + 1) (by omega)
    rw [numK, pl_num hs hn k (by omega), pl_at (by omega), plAt, prod_drop l k (by omega), Int.mul_comm (l.getD k default), ← Int.ediv_ediv_of_nonneg (by omega)]
    have := Int.mul_ediv_add_emod (n / prod (l.drop (k + 1))) (l.getD k default)
    rw [Int.mul_comm] at this
    exact this
theorem pl_inr {l : List Int} {n : Int} (hs : Sizes l) : InR l (pl l n) := ⟨pl_len l n, fun k hk => by
  have hat := hs.at (k := k) hk
  rw [pl_at hk, plAt]
  exact ⟨Int.emod_nonneg _ (by omega), Int.emod_lt_of_pos _ (by omega)⟩⟩
theorem pl_back {l : List Int} {n : Int} (hs : Sizes l) (hn : 0 ≤ n ∧ n < prod l) : numK l (pl l n) l.length = n := by
  rw [pl_num hs hn l.length (Nat.le_refl _), List.drop_length]
  show n / 1 = n
  exact Int.ediv_one n
theorem numb_has : ∀ {l : List Int} {nx n : Int}, numb l nx = some n → ∀ g, nx ≤ g → g < n → g ∈ l
  | [], nx, n, h, g, h1, h2 => by simp [numb] at h; omega
  | x :: r, nx, n, h, g, h1, h2 => by
    unfold numb at h
    split at h
    · cases h
    · by_cases he : x = nx
      · rw [if_pos he] at h
        by_cases hg : g = x
        · rw [hg]; exact List.mem_cons_self
        · exact List.mem_cons_of_mem _ (numb_has h g (by omega) h2)
      · rw [if_neg he] at h
        exact List.mem_cons_of_mem _ (numb_has h g h1 h2)
theorem grouped_has {l : List Int} (h : numbB l = true) {g : Int} (h0 : 0 ≤ g) (h1 : g ≤ maxL l (l.length - 1)) : ∃ j, j < l.length ∧ l.getD j default = g := by
  unfold numbB at h
  split at h
  · rename_i n hn
    obtain ⟨j, hj, he⟩ := maxL_at l (l.length - 1)
    have hl : 0 < l.length := by
      rcases Nat.eq_zero_or_pos l.length with h' | h'
      · rw [List.eq_nil_of_length_eq_zero h'] at hn
        simp [numb] at hn
        rw [← hn] at h; simp at h
      · exact h'
    have hm := (numb_facts l 0 n hn).2.2.1 (l.getD j default) (getD_mem (by omega))
    exact mem_getD (numb_has hn g h0 (by omega))
  · cases h
theorem pub_has {l : List Int} {v : List Row} (hs : Sizes l) (hw : Viewed l v) {k : Int} (hk : 0 ≤ k ∧ k < prod (szs v)) : ∃ j : Nat, (j : Int) < prod l ∧ pubOf l v j = k := by
  have hsz := hw.sizes hs
  have hlen : (szs v).length = l.length := by rw [szs_len, hw.len]
  have hgs := pl_inr (n := k) hsz
  have hex : ∀ i, i < l.length → ∃ j, j < (v.getD i default).2.2.length ∧ (v.getD i default).2.2.getD j default = (pl (szs v) k).getD i default := fun i hi => by
    have hg := hgs.each i (by omega)
    rw [szs_at v i (by rw [hw.len]; exact hi)] at hg
    exact grouped_has (hw.each i hi).2 hg.1 (by omega)
  have hch : ∃ f : Nat → Nat, ∀ i, i < l.length → f i < (v.getD i default).2.2.length ∧ (v.getD i default).2.2.getD (f i) default = (pl (szs v) k).getD i default :=
    ⟨fun i => if h : i < l.length then (hex i h).choose else 0, fun i hi => by
      have := (hex i hi).choose_spec
      simpa [hi] using this⟩
  obtain ⟨f, hf⟩ := hch
  have hxs : InR l ((List.range l.length).map fun i => (f i : Int)) := ⟨by simp, fun i hi => by
    rw [map_range_at _ _ _ hi]
    have := (hf i hi).1
    have := (hw.each i hi).1
    omega⟩
  have hb := numK_bound hxs l.length (Nat.le_refl _)
  rw [List.take_length] at hb
  generalize hxsd : (List.range l.length).map (fun i => (f i : Int)) = xs at hxs hb
  have hpl := pl_of hs hxs rfl
  have hgo : gsOf v xs = pl (szs v) k := by
    refine list_ext (by rw [pl_len, hlen]; simp [gsOf, hw.len]) fun i hi => ?_
    have hi : i < l.length := by simpa [gsOf, hw.len] using hi
    unfold gsOf
    rw [map_range_at _ _ _ (by rw [hw.len]; exact hi), ← hxsd, map_range_at _ _ _ hi, Int.toNat_natCast]
    exact (hf i hi).2
  refine ⟨(numK l xs l.length).toNat, by omega, ?_⟩
  unfold pubOf
  rw [show (((numK l xs l.length).toNat : Nat) : Int) = numK l xs l.length by omega, ← hpl, hgo, take_lt_no (fun i hi => (hgs.each i (by rw [pl_len] at hi; exact hi)).1), if_neg (by decide), ← szs_len v]
  exact pl_back hsz hk
theorem memK_in {l : List Int} {v : List Row} {k : Int} {n : Nat} {x : Int} : x ∈ memK l v k n ↔ ∃ j : Nat, j < n ∧ pubOf l v j = k ∧ x = j := by
  unfold memK
  rw [List.mem_map]
  constructor
  · rintro ⟨j, hj, rfl⟩
    rw [List.mem_filter, List.mem_range] at hj
    exact ⟨j, hj.1, of_decide_eq_true hj.2, rfl⟩
  · rintro ⟨j, h1, h2, rfl⟩
    exact ⟨j, List.mem_filter.2 ⟨List.mem_range.2 h1, decide_eq_true h2⟩, rfl⟩
theorem memK_asc (l : List Int) (v : List Row) (k : Int) (n : Nat) : (memK l v k n).Pairwise (· < ·) := by
  unfold memK
  rw [List.pairwise_map]
  exact (List.pairwise_lt_range.filter _).imp fun h => by omega
theorem memK_good {l : List Int} {v : List Row} (hs : Sizes l) (hw : Viewed l v) {k : Int} (hk : 0 ≤ k ∧ k < prod (szs v)) {A : Option Addr} {c : Nat} {z : Int} (hz : 0 ≤ z ∧ z ≤ 1000000) : GoodE (prod l).toNat ((A, c, memK l v k (prod l).toNat), z) := by
  refine ⟨?_, hz, memK_asc l v k _, fun x hx => ?_⟩
  · obtain ⟨j, hj, hp⟩ := pub_has hs hw hk
    intro h
    have : (j : Int) ∈ memK l v k (prod l).toNat := memK_in.2 ⟨j, by omega, hp, rfl⟩
    dsimp only at h
    rw [h] at this; cases this
  · obtain ⟨j, hj, _, rfl⟩ := memK_in.1 hx
    omega
/-! Releases -/
structure Rel where
  num : Int
  va : Option Addr
  vc : Nat
  v : List Row
  val : Row
instance : Inhabited Rel := ⟨⟨0, none, 0, [], (none, 0, [])⟩⟩
def relC (r : Rel) : List Value := [.int .i64 r.num, .slice r.va r.v.length r.vc, rowV r.val]
theorem relC_len (r : Rel) : (relC r).length = 3 := rfl
def relR (r : Rel) : Res := Stars [ViewR r.va r.vc r.v, rowR r.val]
structure Rels (I : PH) (A : Option Addr) (c : Nat) (l : List Rel) : Prop where
  outer : SliceN relC 3 I A c l
  view : ∀ r ∈ l, RowsOf I r.va r.vc r.v
  val : ∀ r ∈ l, Ints I r.val.1 r.val.2.1 r.val.2.2
theorem Rels.mono {I I' : PH} {A : Option Addr} {c : Nat} {l : List Rel} (hle : PH.le I I') (h : Rels I A c l) : Rels I' A c l := ⟨h.outer.mono hle, fun r hr => (h.view r hr).mono hle, fun r hr => (h.val r hr).mono hle⟩
end Go.Proofs.YtjnhoemgceghlaaGreat
/- Contracts of functions of the given program, and lemmas about plain lists and numbers: what the laws of this seat lean on. -/
namespace Go.Proofs.YtjnhoemgceghlaaGreat
open Go.Eng Go.Sol
attribute [local irreducible] opK wpList Code.wp Exit.then Exit.inBlock fnPost bodyPost Nx Calls Oper.wp Rd Rds Wr Ent Stars Blk Again Vec FnSpec wpMix QRun Stop Upto wpAt
/-! The least solution with the least, or the greatest, number at a cell -/
def ordOf (n : Nat) (L : List Eqn) (x : Nat) : List Nat := x :: (touch n L).filter fun c => !decide (c = x)
def extOf (n : Nat) (L : List Eqn) (x : Nat) (down : Bool) : List (List Int) := enum 1000000 L down (ordOf n L x) (List.replicate n 0)
theorem ord_nd (n : Nat) (L : List Eqn) (x : Nat) : (ordOf n L x).Nodup := by
  unfold ordOf
  rw [List.nodup_cons]
  exact ⟨fun h => by have := (List.mem_filter.1 h).2; simp at this, (touch_nd n L).filter _⟩
theorem ord_mem {n : Nat} {L : List Eqn} {x : Nat} (hx : x ∈ touch n L) (c : Nat) : c ∈ ordOf n L x ↔ c ∈ touch n L := by
  unfold ordOf
  rw [List.mem_cons, List.mem_filter]
  constructor
  · rintro (rfl | h)
    · exact hx
    · exact h.1
  · intro h
    by_cases hc : c = x
    · exact .inl hc
    · exact .inr ⟨h, by simp [hc]⟩
theorem extF_head (p : List Int) : ∀ (L : List (List Int)), (foldStop extF p L).1 = L.headD p
  | [] => rfl
  | x :: L => by unfold foldStop; rw [if_neg (by unfold extF; simp)]; rfl
def ordP (td : List Nat) (x k : Nat) : List Int := ((x :: (td.take k).filter fun c => !decide (c = x)).map Int.ofNat)
theorem ordP_succ {td : List Nat} {x k : Nat} (hk : k < td.length) : ordP td x (k + 1) = if td[k] = x then ordP td x k else ordP td x k ++ [((td[k] : Nat) : Int)] := by
  unfold ordP
  rw [List.take_succ_eq_append_getElem hk, List.filter_append]
  by_cases h : td[k] = x
  · rw [if_pos h, List.filter_cons_of_neg (by simp [h])]
    rw [List.filter_nil, List.append_nil]
  · rw [if_neg h, List.filter_cons_of_pos (by simp [h])]
    rw [List.filter_nil, ← List.cons_append, List.map_append]
    rfl
theorem ordP_len (td : List Nat) (x k : Nat) : (ordP td x k).length ≤ k + 1 := by
  unfold ordP
  rw [List.length_map, List.length_cons]
  have := List.length_filter_le (fun c => !decide (c = x)) (td.take k)
  rw [List.length_take] at this
  omega
set_option maxRecDepth 10000 in
set_option maxHeartbeats 8000000 in
theorem extreme_spec (A : Option Addr) (c : Nat) (l : List EqR) (n x : Nat) (down : Bool) (I : PH) (hl : Eqs I A c l) (hg : ∀ q ∈ l, GoodE n q) (hn : n ≤ 4096) (hll : l.length ≤ 100000) (h9 : (allC l).length ≤ 100000) (hx : x ∈ touch n (eqns l)) :
    FnSpec Tryz.prog 138 [.int .i64 (n : Int), .slice A l.length c, .int .i64 (x : Int), .bool down] I []
      (fun v R' => ∃ (A' : Option Addr) (c' : Nat) (tab : List Int), v = .slice A' tab.length c' ∧ tab = (extOf n (eqns l) x down).headD [] ∧ R' = [iR A' c' tab]) := by
  have hSt := start_spec A c l n I hl hg hn hll (by omega)
  have htdl : (touch n (eqns l)).length ≤ n := by
    unfold touch
    exact Nat.le_trans (List.length_filter_le _ _) (by simp)
  refine FnSpec.enterP Tryz.func138 rfl Tryz.ntmps138 rfl fun w F => ?_
  repeat' first
    | ((with_reducible refine Nx.is_wp ?_); first | refine Nx.p_stopr 2 rfl ?_ | refine Nx.wo ?_ | refine Nx.zp (fun hc => ?_) (fun hc => ?_))
    | (refine Nx.zo ?_; first | refine Nx.opr rfl rfl ?_ | (refine Nx.call (Rpre := []) rfl rfl rfl (by kernel_rfl) rfl hSt (Ent.refl _) ?_; rintro _ _ ⟨p, Atd, ctd, Ai, ci, ins, rfl, htv, hiv, hil, hins, rfl⟩) | refine Nx.so ?_ | refine Nx.sb (fun bx => ?_) | refine Nx.sa (fun A2 c2 => ?_))
    | ((with_reducible refine Nx.is_at ?_); first | refine Nx.a ?_ | refine Nx.zd ?_ | refine Nx.zs (fun hc => ?_) (fun hc => ?_))
    | ((with_reducible refine Nx.is_mix ?_); first | refine Nx.m ?_ | refine Nx.zm ?_ | refine Nx.zt (fun hc => ?_) (fun hc => ?_))
    | refine Nx.zx ?_ | fail
  refine unstopN ?_
  refine started hiv hil hins (RR := [p.blk n l.length, iR p.Ar p.cr (valsL l), iR p.Ao p.co (sizesL l), iR p.At p.ct (List.replicate n 0), F]) (by (exact Ent.auto)) fun I1 hI1 hin htd => ?_
  have hsane := sane_eqns hg hll h9
  have htdn := htd.len
  rw [List.length_map] at htdn
  unfold Pl.blk
  rw [htv]
  repeat' first
    | ((with_reducible refine Nx.is_wp ?_); first | refine Nx.wo ?_ | refine Nx.zp (fun hc => ?_) (fun hc => ?_))
    | (refine Nx.zo ?_; first | refine Nx.opr rfl rfl ?_ | refine Nx.so ?_ | refine Nx.sb (fun bx => ?_) | refine Nx.sa (fun A2 c2 => ?_))
    | ((with_reducible refine Nx.is_at ?_); first | refine Nx.a ?_ | refine Nx.zd ?_ | refine Nx.zs (fun hc => ?_) (fun hc => ?_))
    | ((with_reducible refine Nx.is_mix ?_); first | refine Nx.m ?_ | refine Nx.zm ?_ | refine Nx.zt (fun hc => ?_) (fun hc => ?_))
    | refine Nx.zx ?_ | fail
  refine Nx.blk_vec 0 1 1 rfl rfl (by omega) ?_
  refine Nx.p_loop (σ := Nat × Option Addr × Nat) (fun s => [(0, .int .i64 (n : Int)), (1, .slice A l.length c), (2, .int .i64 (x : Int)), (3, .bool down), (9, .pointer (some ⟨p.b, 0, none⟩)), (10, .slice s.2.1 (ordP (touch n (eqns l)) x s.1).length s.2.2), (22, .slice Atd (touch n (eqns l)).length ctd), (23, .int .i64 (touch n (eqns l)).length), (24, .int .i64 (s.1 : Int))])
    (fun s => [iR s.2.1 s.2.2 (ordP (touch n (eqns l)) x s.1), Blk p.b PT [.slice Atd (touch n (eqns l)).length ctd, p.iv, .slice p.Ar l.length p.cr, .slice p.Ao l.length p.co, .slice p.At n p.ct], iR p.Ar p.cr (valsL l), iR p.Ao p.co (sizesL l), iR p.At p.ct (List.replicate n 0), F]) (fun s => s.1 ≤ (touch n (eqns l)).length) (fun s => (touch n (eqns l)).length - s.1) (0, some ⟨bx, 0, none⟩, 1) rfl (Nat.zero_le _) ⟨rfl, rfl, rfl, rfl, rfl, rfl, rfl, rfl, rfl, trivial⟩ (by unfold ordP iR; (exact Ent.auto)) ?_
  rintro ⟨k, A1, c1⟩ hk
  dsimp only at hk ⊢
  have hpl := ordP_len (touch n (eqns l)) x k
  by_cases hlt : k < (touch n (eqns l)).length
  · have hs := ordP_succ (x := x) hlt
    have htr : ∀ (W : World) (R : List Res), Rd W I1 R ((ad Atd).add (k * 1)) (.int .i64 ((touch n (eqns l))[k] : Int)) := fun W R => by
      have h := htd.rd (W := W) (R := R) (k := k) (by rw [List.length_map]; exact hlt)
      rw [List.getD_eq_getElem?_getD, List.getElem?_map, List.getElem?_eq_getElem hlt] at h
      exact h
    generalize (touch n (eqns l))[k] = y at hs htr
    generalize ordP (touch n (eqns l)) x k = acc at hs hpl ⊢
    by_cases hyx : y = x
    · rw [if_pos hyx] at hs
      repeat' first
        | ((with_reducible refine Nx.is_wp ?_); first | refine Nx.wo ?_ | refine Nx.zp (fun hc => ?_) (fun hc => ?_))
        | (refine Nx.zo ?_; first | refine Nx.opr rfl rfl ?_ | refine Nx.indexAddr_nat rfl rfl rfl rfl rfl (by omega) (htd.isSome (by rw [List.length_map]; omega)) ?_ | refine Nx.load rfl rfl rfl (htr _ _) ?_ | refine Nx.so ?_ | refine Nx.sb (fun bx => ?_) | refine Nx.sa (fun A2 c2 => ?_))
        | ((with_reducible refine Nx.is_at ?_); first | refine Nx.a ?_ | refine Nx.zd ?_ | refine Nx.zs (fun hc => ?_) (fun hc => ?_))
        | ((with_reducible refine Nx.is_mix ?_); first | refine Nx.m ?_ | refine Nx.zm ?_ | refine Nx.zt (fun hc => ?_) (fun hc => ?_))
        | refine Nx.zx ?_ | fail
      exact Nx.again (k + 1, A1, c1) hlt (by dsimp only; omega) ⟨rfl, rfl, rfl, rfl, rfl, by dsimp only; rw [hs]; rfl, rfl, rfl, rfl, trivial⟩ (by dsimp only; rw [hs]; (exact Ent.auto))
    · rw [if_neg hyx] at hs
      repeat' first
        | ((with_reducible refine Nx.is_wp ?_); first | refine Nx.wo ?_ | refine Nx.zp (fun hc => ?_) (fun hc => ?_))
        | (refine Nx.zo ?_; first | refine Nx.opr rfl rfl ?_ | refine Nx.indexAddr_nat rfl rfl rfl rfl rfl (by omega) (htd.isSome (by rw [List.length_map]; omega)) ?_ | refine Nx.load rfl rfl rfl (htr _ _) ?_ | refine Nx.so ?_ | refine Nx.sb (fun bx => ?_) | refine Nx.sa (fun A2 c2 => ?_))
        | ((with_reducible refine Nx.is_at ?_); first | refine Nx.a ?_ | refine Nx.zd ?_ | refine Nx.zs (fun hc => ?_) (fun hc => ?_))
        | ((with_reducible refine Nx.is_mix ?_); first | refine Nx.m ?_ | refine Nx.zm ?_ | refine Nx.zt (fun hc => ?_) (fun hc => ?_))
        | refine Nx.zx ?_ | fail
      exact Nx.again (k + 1, A2, c2) hlt (by dsimp only; omega) ⟨rfl, rfl, rfl, rfl, rfl, by dsimp only; rw [hs, List.length_append]; rfl, rfl, rfl, rfl, trivial⟩ (by dsimp only; rw [hs]; unfold iR; rw [List.length_append, List.map_append]; (exact Ent.auto))
  obtain rfl : k = (touch n (eqns l)).length := by omega
  have hord : ordP (touch n (eqns l)) x (touch n (eqns l)).length = (ordOf n (eqns l) x).map Int.ofNat := by unfold ordP ordOf; rw [List.take_length]
  rw [hord]
  repeat' first
    | ((with_reducible refine Nx.is_wp ?_); first | refine Nx.p_stopr 10 rfl ?_ | refine Nx.wo ?_ | refine Nx.zp (fun hc => ?_) (fun hc => ?_))
    | (refine Nx.zo ?_; first | refine Nx.opr rfl rfl ?_ | refine Nx.so ?_ | refine Nx.sb (fun bx => ?_) | refine Nx.sa (fun A2 c2 => ?_))
    | ((with_reducible refine Nx.is_at ?_); first | refine Nx.a ?_ | refine Nx.zd ?_ | refine Nx.zs (fun hc => ?_) (fun hc => ?_))
    | ((with_reducible refine Nx.is_mix ?_); first | refine Nx.m ?_ | refine Nx.zm ?_ | refine Nx.zt (fun hc => ?_) (fun hc => ?_))
    | refine Nx.zx ?_ | fail
  refine unstopN ?_
  revert bx; intro bo
  refine Nx.ent (R' := [iR A1 c1 ((ordOf n (eqns l) x).map Int.ofNat), Blk bo 25 [.slice none 0 0], Blk p.b PT [.slice Atd (touch n (eqns l)).length ctd, p.iv, .slice p.Ar l.length p.cr, .slice p.Ao l.length p.co, .slice p.At n p.ct], iR p.Ar p.cr (valsL l), iR p.Ao p.co (sizesL l), iR p.At p.ct (List.replicate n 0), F]) (by (exact Ent.auto)) ?_
  refine Nx.freezeAt 0 rfl fun I2 m2 hI2 hm2 h2 => ?_
  have hOi : Ints I2 A1 c1 ((ordOf n (eqns l) x).map Int.ofNat) := Vec.sliceOf hm2 h2
  have hSe := search_spec p n (eqns l) I2 (hin.mono hI2) (fun I' hI' => extF_spec bo I' n) hsane (by omega) A1 c1 (ordOf n (eqns l) x) hOi down (none, 0, []) (List.replicate n 0) (inv_start hg (ord_nd _ _ _) (ord_mem hx)) (fun c => by rw [zeros_at]; exact Int.le_refl _) trivial
  rw [rest_start, open_same (ord_mem hx), open_start hg, eqns_len] at hSe
  unfold Pl.blk at hSe
  rw [htv] at hSe
  rw [List.length_map]
  refine Nx.ent (R' := [extT bo (none, 0, []), Blk p.b PT [.slice Atd (touch n (eqns l)).length ctd, p.iv, .slice p.Ar l.length p.cr, .slice p.Ao l.length p.co, .slice p.At n p.ct], iR p.Ar p.cr (valsL l), iR p.Ao p.co (sizesL l), iR p.At p.ct (List.replicate n 0), F]) ((Ent.vec_nil 3 1 _).trans (Ent.trans (R' := [Blk bo 25 [.slice none 0 0], Vec 3 1 none 0 0 []] ++ [Blk p.b PT [.slice Atd (touch n (eqns l)).length ctd, p.iv, .slice p.Ar l.length p.cr, .slice p.Ao l.length p.co, .slice p.At n p.ct], iR p.Ar p.cr (valsL l), iR p.Ao p.co (sizesL l), iR p.At p.ct (List.replicate n 0), F]) (by (exact Ent.auto)) Ent.stars)) ?_
  repeat' first
    | ((with_reducible refine Nx.is_wp ?_); first | refine Nx.wo ?_ | refine Nx.zp (fun hc => ?_) (fun hc => ?_))
    | (refine Nx.zo ?_; first | refine Nx.opr rfl rfl ?_ | (refine Nx.call rfl rfl rfl (by kernel_rfl) rfl hSe (by (exact Ent.auto)) ?_; rintro _ _ ⟨rfl, s', G, hs', rfl⟩; obtain ⟨A', c', o⟩ := s'; refine Nx.ent (R' := [Blk bo 25 [.slice A' o.length c'], iR A' c' o, F]) (Ent.unstars.trans (by (exact Ent.auto))) ?_) | refine Nx.so ?_ | refine Nx.sb (fun bx => ?_) | refine Nx.sa (fun A2 c2 => ?_))
    | ((with_reducible refine Nx.is_at ?_); first | refine Nx.a ?_ | refine Nx.zd ?_ | refine Nx.zs (fun hc => ?_) (fun hc => ?_))
    | ((with_reducible refine Nx.is_mix ?_); first | refine Nx.m ?_ | refine Nx.zm ?_ | refine Nx.zt (fun hc => ?_) (fun hc => ?_))
    | refine Nx.zx ?_ | fail
  exact Nx.imm_le (hI1.trans hI2) (Nx.ret_fn rfl [_] ⟨A', c', o, rfl, hs'.trans (extF_head [] _), rfl⟩ (by (exact Ent.auto)))
end Go.Proofs.YtjnhoemgceghlaaGreat
/-
  The proof engine, part AG: an element of an owned list of structs is stored whole.
-/
namespace Go.Eng
section
variable {P : Program} {W : World} {I : PH} {R : List Res} {t : TypeId} {A : Option Addr} {n c : Nat}
theorem setsAt_eq : ∀ (vs cs : List Value) (i : Nat), i + vs.length ≤ cs.length → setsAt cs i vs = some (cs.take i ++ vs ++ cs.drop (i + vs.length))
  | [], cs, i, _ => by simp [setsAt]
  | v :: vs, cs, i, h => by
    simp only [List.length_cons] at h
    have hset : ∀ (cs : List Value) (i : Nat), i < cs.length → setAt cs i v = some (cs.set i v) := by
      intro cs
      induction cs with
      | nil => intro i hi; simp at hi
      | cons c r ih =>
        intro i hi
        cases i with
        | zero => rfl
        | succ i =>
          simp only [setAt]
          rw [ih i (by simpa using hi)]
          rfl
    unfold setsAt
    rw [hset cs i (by omega)]
    show setsAt (cs.set i v) (i + 1) vs = _
    rw [setsAt_eq vs (cs.set i v) (i + 1) (by rw [List.length_set]; omega)]
    congr 1
    rw [List.drop_set_of_lt (by omega), List.length_cons, show i + 1 + vs.length = i + (vs.length + 1) by omega]
    rw [List.take_succ_eq_append_getElem (by rw [List.length_set]; omega), List.getElem_set_self, List.take_set_of_le (Nat.le_refl _)]
    simp
theorem patch_take {α : Type} {L vs : List α} {i N : Nat} (h : i + vs.length ≤ N) (hN : N ≤ L.length) : (L.take i ++ vs ++ L.drop (i + vs.length)).take N = (L.take N).take i ++ vs ++ (L.take N).drop (i + vs.length) := by
  have hl : (L.take i ++ vs).length = i + vs.length := by rw [List.length_append, List.length_take]; omega
  rw [List.take_append, List.take_of_length_le (by omega), hl, List.take_take, Nat.min_eq_left (by omega), List.drop_take]
/-- Several cells of an owned list are stored. -/
theorem Wr.vecNs {sz i : Nat} {xs vs : List Value} (hi : i + vs.length ≤ n * sz) (h0 : 0 < vs.length) (h1 : ∀ v ∈ vs, v.oneCell' = true) : Wr P W I (Vec t sz A n c xs :: R) ((ad A).add i) vs (Vec t sz A n c (xs.take i ++ vs ++ xs.drop (i + vs.length)) :: R) := by
  intro w hw
  obtain ⟨⟨m, ⟨m1, m2, hd, rfl, hv, h2⟩, hsat⟩, hst⟩ := id hw
  have hxl := hv.1
  rcases hv.2 with ⟨_, hn0, _⟩ | ⟨b, cur, rfl, hb, hnc, hcm, hsz, htake⟩
  · rw [hn0, Nat.zero_mul] at hi; omega
  have hb0 : w.heap[b]? = some (.cells cur t (0, 0)) := hsat.own _ _ (PH.le_or_left _ _ _ _ hb)
  have hle : n * sz ≤ c * sz := Nat.mul_le_mul_right _ hnc
  have hcl : cur.toList.length = c * sz := by rw [Array.length_toList]; exact hsz
  have hs1 := setsAt_eq vs cur.toList i (by omega)
  obtain ⟨w', hr, hb', hk', hst'⟩ := storeCells_from (P := P) vs cur.toList _ i 0 w (by simpa using hb0) hs1 h1
  refine ⟨w', ?_, ?_⟩
  · rw [ad_some, Addr.add_lit, Nat.zero_add]
    exact hr
  · refine hw.upd (o := .cells (cur.toList.take i ++ vs ++ cur.toList.drop (i + vs.length)).toArray t (0, 0)) (b := b) (fun mm hm => ?_) hb' (fun j hne o' ho => (hk' j hne).trans ho) hst'
    rcases hm.2 with ⟨he, _, _⟩ | ⟨b', cur', he, hb1, _, _, _, _⟩
    · cases he
    cases he
    refine ⟨by rw [hb1]; rfl, ?_, .inr ⟨b, (cur.toList.take i ++ vs ++ cur.toList.drop (i + vs.length)).toArray, rfl, by simp, hnc, hcm, ?_, ?_⟩⟩
    · simp only [List.length_append, List.length_take, List.length_drop]; omega
    · simp only [List.size_toArray, List.length_append, List.length_take, List.length_drop]; omega
    · rw [List.toList_toArray, ← htake]
      exact patch_take hi (by omega)
/-- An element of a list of structs is put anew. -/
theorem flat_put {α : Type} [Inhabited α] {f : α → List Value} {sz : Nat} (hf : ∀ x, (f x).length = sz) {l : List α} {k : Nat} (x' : α) (hk : k < l.length) : (l.flatMap f).take (k * sz) ++ f x' ++ (l.flatMap f).drop (k * sz + (f x').length) = (l.set k x').flatMap f := by
  have e : l = l.take k ++ l[k] :: l.drop (k + 1) := by rw [← List.drop_eq_getElem_cons hk, List.take_append_drop]
  have hfe : l.flatMap f = (l.take k).flatMap f ++ (f l[k] ++ (l.drop (k + 1)).flatMap f) := by
    have := congrArg (List.flatMap f) e
    rw [List.flatMap_append, List.flatMap_cons] at this
    exact this
  have hl0 : ((l.take k).flatMap f).length = k * sz := by rw [flat_len hf, List.length_take, Nat.min_eq_left (by omega)]
  have h1 : (l.flatMap f).take (k * sz) = (l.take k).flatMap f := by rw [hfe, ← hl0, List.take_left]
  have h2 : (l.flatMap f).drop (k * sz + sz) = (l.drop (k + 1)).flatMap f := by
    have hl : ((l.take k).flatMap f ++ f l[k]).length = k * sz + sz := by rw [List.length_append, hl0, hf]
    rw [hfe, ← List.append_assoc, ← hl, List.drop_left]
  rw [hf, h1, h2, List.set_eq_take_append_cons_drop, if_pos hk, List.flatMap_append, List.flatMap_cons, List.append_assoc]
end
section
variable {C : Cx} {e : Env} {I : PH} {R : List Res} {K : Act → World → Prop} {Q : Exit → Act → World → Prop} {n c : Nat} {t ty el : TypeId} {pos : String} {after : Array Edge} {g : Option (Nat × Bool)} {x y : Operand} {A : Option Addr}
/-- An element of an owned list of structs is stored whole, resource number k. -/
theorem Nx.store_elt {α : Type} [Inhabited α] (k : Nat) (f : α → List Value) {sz i : Nat} {l : List α} {x' : α} {vy : Value} (hx : evo e x = some (.pointer (some ((ad A).add (i * sz))))) (hy : evo e y = some vy) (hc : cellsL vy = f x') (hn : cellsIn C.P t = some sz) (hk : nthL R k = some (Vec el sz A n c (l.flatMap f)))
    (hf : ∀ x, (f x).length = sz) (h0 : 0 < sz) (h1 : ∀ v ∈ f x', v.oneCell' = true) (hi : i < l.length) (hn2 : l.length = n)
    (h : Nx C e I (Vec el sz A n c ((l.set i x').flatMap f) :: R.eraseIdx k) K) : Nx C e I R (opK C.P ⟨none, .store t x y, ty, pos, after, g⟩ K Q) := by
  have hl := hf x'
  have hle : (i + 1) * sz ≤ n * sz := Nat.mul_le_mul_right _ (by omega)
  rw [Nat.succ_mul] at hle
  have hp := flat_put hf x' hi
  rw [← hp] at h
  exact Nx.ent (Ent.pull k R _ (nthL_eq.symm.trans hk)) (Nx.store hx hy ((cellsL_eq _).trans hc) hn (by rw [hl]; exact Nat.beq_refl _) (Wr.vecNs (by rw [hl]; exact hle) (by omega) h1) h)
theorem toList_made (z : Array Value) : ∀ m : Nat, (madeCells z (m * z.size)).toList = (List.replicate m z.toList).flatten
  | 0 => by rw [Nat.zero_mul]; simp [madeCells]
  | m + 1 => by
    have ih := toList_made z m
    unfold madeCells at ih ⊢
    rw [Array.toList_map, Array.toList_range] at ih ⊢
    rw [Nat.succ_mul, List.range_add, List.map_append, ih, List.replicate_succ', List.flatten_append, List.map_map]
    congr 1
    rw [List.flatten_cons, List.flatten_nil, List.append_nil]
    refine List.ext_getElem (by simp) fun i h1 h2 => ?_
    have hi : i < z.size := by simpa using h1
    rw [List.getElem_map, List.getElem_range]
    show z[(m * z.size + i) % z.size]! = _
    rw [Nat.mul_comm, Nat.mul_add_mod, Nat.mod_eq_of_lt hi, getElem!_pos z i hi]
    rfl
/-- make([]T, n), T of several cells. -/
theorem Nx.makeStructs {d : Tmp} {α : Type} (f : α → List Value) (x0 : α) {kl kc : IntKind} {by_ m sz : Nat} {z0 : Value} {i : TypeInfo} (hx : evo e x = some (.int kl (m : Int))) (hy : evo e y = some (.int kc (m : Int))) (ht : C.P.underlying t = some (.slice el))
    (hi : C.P.info? el = some i) (hz : i.zero = some z0) (hs : i.size = sz) (hb : i.bytes = by_) (hz1 : z0.cells.toList = f x0) (hl : (f x0).length = sz) (hlt : Nat.blt d C.n = true) (hbytes : by_ * m ≤ 281474976710656) (h63 : m ≤ maxLen)
    (h : ∀ b, Nx C ((d, .slice (some ⟨b, 0, none⟩) m m) :: e) I (Vec el sz (some ⟨b, 0, none⟩) m m ((List.replicate m x0).flatMap f) :: R) K) : Nx C e I R (opK C.P ⟨some d, .makeSlice t x y, ty, pos, after, g⟩ K Q) := by
  refine Nx.op_new (v := fun b => .slice (some ⟨b, 0, none⟩) m m) (ob := .cells (madeCells z0.cells (m * sz)) el) rfl hlt (fun a w ha hw => ?_) (fun b => ?_)
  · simp only [execOp, ha.eval hx, ha.eval hy]
    refine run_v ?_
    have hbb : (i.bytes : Int) * (m : Int) ≤ 281474976710656 := by
      have h : ((i.bytes * m : Nat) : Int) ≤ 281474976710656 := by rw [hb]; omega
      rwa [Int.natCast_mul] at h
    unfold maxLen at h63
    have hr := run_make (P := C.P) w t el i z0 ht hi hz kl kc m m (by omega) (by omega) hbb (by omega)
    simp only [Int.toNat_natCast, hs] at hr
    exact hr
  · have hsz : z0.cells.size = sz := by rw [← hl, ← hz1, Array.length_toList]
    have hfl : ((List.replicate m x0).flatMap f).length = m * sz := by
      clear h hbytes h63 hx hy
      induction m with
      | zero => simp
      | succ m ih => rw [List.replicate_succ, List.flatMap_cons, List.length_append, ih, hl, Nat.succ_mul]; omega
    have hrep : (List.replicate m z0.cells.toList).flatten = (List.replicate m x0).flatMap f := by
      rw [hz1, List.flatMap_def, List.map_replicate]
    refine (h b).ent (Ent.head fun mm hm => ⟨hfl, .inr ⟨b, _, rfl, hm, Nat.le_refl _, h63, by rw [size_madeCells], ?_⟩⟩)
    have := toList_made z0.cells m
    rw [hsz] at this
    rw [this, hrep, ← hfl, List.take_length]
end
end Go.Eng
/-
  The proof engine, part O: slicing where the order is open.
-/
namespace Go.Eng
variable {C : Cx} {e : Env} {S : World → Prop} {ty t el : TypeId} {pos : String} {after : Array Edge} {g : Option (Nat × Bool)} {x y : Operand} {A : Option Addr} {n c : Nat} {dst : Option Tmp}
theorem QRun.slice_hi {k : IntKind} {h sz : Nat} (hx : evo e x = some (.slice A n c)) (hy : evo e y = some (.int k (h : Int))) (ht : C.P.underlying t = some (.slice el)) (hsz : cellsIn C.P el = some sz) (h2 : h ≤ c) :
    QRun C e S ⟨dst, .slice t x none (some y) none, ty, pos, after, g⟩ (.slice A h c) := fun a w ha _ => by
  simp only [execOp, ha.eval hx, ha.eval hy, Option.map_some, Option.map_none]
  refine run_v ?_
  have := run_slice_of (A := A) (n := n) (c := c) (lo := none) (hi := some (.int k (h : Int))) (l := 0) (h := h) ht hsz w (by simp [Instr.sliceBounds, run_sliceBound, h2])
  rw [offA_zero] at this
  exact this
theorem QRun.slice_lo {k : IntKind} {l sz : Nat} (hx : evo e x = some (.slice A n c)) (hy : evo e y = some (.int k (l : Int))) (ht : C.P.underlying t = some (.slice el)) (hsz : cellsIn C.P el = some sz) (h2 : l ≤ n) :
    QRun C e S ⟨dst, .slice t x (some y) none none, ty, pos, after, g⟩ (.slice (offA A c l sz) (n - l) (c - l)) := fun a w ha _ => by
  simp only [execOp, ha.eval hx, ha.eval hy, Option.map_some, Option.map_none]
  refine run_v ?_
  exact run_slice_of (A := A) (n := n) (c := c) (lo := some (.int k (l : Int))) (hi := none) (l := l) (h := n) ht hsz w (by simp [Instr.sliceBounds, run_sliceBound, h2])
end Go.Eng
/-
  The proof engine, part AM: copy.
-/
namespace Go.Eng
section
variable {C : Cx} {e : Env} {I : PH} {R R' : List Res} {K : Act → World → Prop} {Q : Exit → Act → World → Prop} {n c : Nat} {t ty el : TypeId} {pos : String} {after : Array Edge} {g : Option (Nat × Bool)} {x y : Operand} {A : Option Addr} {d : Tmp}
/-- copy(x, y), of two lists in memory. -/
theorem Nx.copy_ {tys : Array TypeId} {dT sT : TypeId} {a b : Addr} {m c2 sz k : Nat} {cs : List Value} (hx : evo e x = some (.slice (some a) n c)) (hy : evo e y = some (.slice (some b) m c2)) (hty : tys = #[dT, sT]) (ht : C.P.underlying dT = some (.slice el)) (hsz : cellsIn C.P el = some sz) (hlt : Nat.blt d C.n = true)
    (hk : k = Nat.min m n) (hcl : cs.length = k * sz) (hr : Rds C.W I R b cs) (hw : Wr C.P C.W I R a cs R') (h : Nx C ((d, .int .i64 (k : Int)) :: e) I R' K) : Nx C e I R (opK C.P ⟨some d, .call { callee := .builtin .copy, args := #[x, y], argTypes := tys }, ty, pos, after, g⟩ K Q) := by
  subst hty
  intro w0 w ha hst
  obtain ⟨w', hst1, hst'⟩ := hw w hst
  have hl := run_loadCells_list (P := C.P) w b cs (fun j v hj => hr j v hj w hst)
  have hrc : (Builtin.copy_ #[dT, sT] ty #[.slice (some a) n c, .slice (some b) m c2]).run C.P w = .ok (.int .i64 (k : Int)) w' := by
    subst hk
    simp [Builtin.copy_, run_underlying ht, Builtin.lenOf, Builtin.firstCells, cellsIn_run hsz, ← hcl, hl, hst1, goInt]
  unfold opK Oper.wp
  have hrun : (execOp w0.eval ⟨some d, .call { callee := .builtin .copy, args := #[x, y], argTypes := #[dT, sT] }, ty, pos, after, g⟩).run C.P w = .ok (.value (.int .i64 (k : Int))) w' := by
    obtain ⟨cs, hcs⟩ := run_builtin (P := C.P) (w := w) (ρ := w0.eval) (b := .copy) (args := #[x, y]) (dst := some d) (ty := ty) (pos := pos) (after := after) (g := g) (tys := #[dT, sT]) (show [x, y].map w0.eval = [Value.slice (some a) n c, Value.slice (some b) m c2] from by simp only [List.map_cons, List.map_nil, ha.eval hx, ha.eval hy])
    rw [hcs]
    exact run_v hrc
  rw [hrun]
  exact h _ w' (ha.put hlt _) hst'
/-- x[l:], where something is left. -/
theorem QRun.slice_from {S : World → Prop} {dst : Option Tmp} {a : Addr} {k : IntKind} {l sz : Nat} (hx : evo e x = some (.slice (some a) n c)) (hy : evo e y = some (.int k (l : Int))) (ht : C.P.underlying t = some (.slice el)) (hsz : cellsIn C.P el = some sz) (h2 : l < n) (h3 : n ≤ c) :
    QRun C e S ⟨dst, .slice t x (some y) none none, ty, pos, after, g⟩ (.slice (some (a.add (l * sz))) (n - l) (c - l)) := by
  have h := QRun.slice_lo (S := S) (dst := dst) (ty := ty) (pos := pos) (after := after) (g := g) hx hy ht hsz (Nat.le_of_lt h2)
  rw [show offA (some a) c l sz = some (a.add (l * sz)) by unfold offA; rw [if_neg (by omega)]; rfl] at h
  exact h
theorem Rds.vec_take {W : World} {sz q : Nat} {xs : List Value} : Rds W I (Vec t sz A n c xs :: R) (ad A) (xs.take q) := fun j u hj => by
  refine Rd.vec ?_
  rw [List.getElem?_take] at hj
  split at hj
  · exact hj
  · cases hj
theorem Wr.vecNs0 {P : Program} {W : World} {sz b : Nat} {xs vs : List Value} (hi : vs.length ≤ n * sz) (h0 : 0 < vs.length) (h1 : ∀ v ∈ vs, v.oneCell' = true) : Wr P W I (Vec t sz (some ⟨b, 0, none⟩) n c xs :: R) ⟨b, 0, none⟩ vs (Vec t sz (some ⟨b, 0, none⟩) n c (xs.take 0 ++ vs ++ xs.drop (0 + vs.length)) :: R) := by
  have h := Wr.vecNs (P := P) (W := W) (I := I) (R := R) (t := t) (A := some ⟨b, 0, none⟩) (n := n) (c := c) (sz := sz) (i := 0) (xs := xs) (vs := vs) (by omega) h0 h1
  rw [ad_some, Addr.add_lit] at h
  exact h
/-- A list that is filled by copying itself. -/
structure Filled (cx : List Value) (sz n m : Nat) (xs : List Value) : Prop where
  len : xs.length = n * sz
  fill : xs.take (m * sz) = (List.replicate m cx).flatten
  one : ∀ v ∈ xs, v.oneCell' = true
theorem flat_rep_len {cx : List Value} {sz : Nat} (hcx : cx.length = sz) (m : Nat) : (List.replicate m cx).flatten.length = m * sz := by
  induction m with
  | zero => simp
  | succ m ih => rw [List.replicate_succ, List.flatten_cons, List.length_append, ih, hcx, Nat.succ_mul]; omega
theorem Filled.step {cx : List Value} {sz n m k : Nat} {xs : List Value} (hcx : cx.length = sz) (h : Filled cx sz n m xs) (hk : k ≤ m) (hkn : m + k ≤ n) : Filled cx sz n (m + k) (xs.take (m * sz) ++ xs.take (k * sz) ++ xs.drop (m * sz + (xs.take (k * sz)).length)) := by
  have hl := h.len
  have h1 : k * sz ≤ m * sz := Nat.mul_le_mul_right _ hk
  have h2 : (m + k) * sz ≤ n * sz := Nat.mul_le_mul_right _ hkn
  rw [Nat.add_mul] at h2
  have hkl : (xs.take (k * sz)).length = k * sz := by rw [List.length_take]; omega
  have hml : (xs.take (m * sz)).length = m * sz := by rw [List.length_take]; omega
  have hkf : xs.take (k * sz) = (List.replicate k cx).flatten := by
    have : xs.take (k * sz) = (xs.take (m * sz)).take (k * sz) := by rw [List.take_take, Nat.min_eq_left h1]
    rw [this, h.fill]
    obtain ⟨j, rfl⟩ : ∃ j, m = k + j := ⟨m - k, by omega⟩
    rw [← List.replicate_append_replicate, List.flatten_append]
    exact List.take_left' (flat_rep_len hcx k)
  refine ⟨?_, ?_, fun v hv => ?_⟩
  · rw [List.length_append, List.length_append, hml, hkl, List.length_drop]; omega
  · rw [List.take_left' (by rw [List.length_append, hml, hkl, Nat.add_mul]), h.fill, hkf, ← List.flatten_append, List.replicate_append_replicate]
  · rcases List.mem_append.1 hv with hv | hv
    · rcases List.mem_append.1 hv with hv | hv
      · exact h.one v (List.mem_of_mem_take hv)
      · exact h.one v (List.mem_of_mem_take hv)
    · exact h.one v (List.mem_of_mem_drop hv)
theorem Filled.start {cx : List Value} {sz n : Nat} {xs : List Value} (hcx : cx.length = sz) (h1 : ∀ v ∈ cx, v.oneCell' = true) (hl : xs.length = n * sz) (hx : ∀ v ∈ xs, v.oneCell' = true) (hn : 1 ≤ n) : Filled cx sz n 1 (xs.take 0 ++ cx ++ xs.drop (0 + cx.length)) := by
  have h2 : 1 * sz ≤ n * sz := Nat.mul_le_mul_right _ hn
  refine ⟨?_, ?_, fun v hv => ?_⟩
  · rw [List.take_zero, List.nil_append, List.length_append, List.length_drop]; omega
  · rw [List.take_zero, List.nil_append, List.take_left' (by omega)]; simp
  · rw [List.take_zero, List.nil_append] at hv
    rcases List.mem_append.1 hv with hv | hv
    · exact h1 v hv
    · exact hx v (List.mem_of_mem_drop hv)
theorem Filled.done {cx : List Value} {sz n : Nat} {xs : List Value} (h : Filled cx sz n n xs) : xs = (List.replicate n cx).flatten := by
  rw [← h.fill, ← h.len, List.take_length]
end
end Go.Eng
/-
  The proof engine, part AI: conversion to a number without sign, in an open statement.
-/
namespace Go.Eng
theorem QRun.conv_u64 {C : Cx} {e : Env} {S : World → Prop} {ty t u : TypeId} {pos : String} {after : Array Edge} {g : Option (Nat × Bool)} {x : Operand} {k : IntKind} {p : Int} {s : TypeDesc} {dst : Option Tmp} (hx : evo e x = some (.int k p)) (hs : C.P.underlying t = some s) (ht : C.P.underlying u = some (.int .u64)) : QRun C e S ⟨dst, .convert t u x, ty, pos, after, g⟩ (.int .u64 (p % B64)) := fun a w ha _ => by
  simp only [execOp, ha.eval hx]
  refine run_v ?_
  unfold convert
  rw [Sem.run_bind, run_underlying hs, Result.andThen_ok, Sem.run_bind, run_underlying ht, Result.andThen_ok]
  show Result.ok (Value.int .u64 (IntKind.u64.wrap p)) w = _
  rw [IntKind.wrap_u64]
end Go.Eng
/- Contracts of functions of the given program, and lemmas about plain lists and numbers: what the laws of this seat lean on. -/
namespace Go.Proofs.YtjnhoemgceghlaaGreat
def ml64_ren : Go.Shelf.Ren := ⟨fun | 264 => 176 | n => n, fun | 53 => 131 | 46 => 104 | n => n, fun | n => n⟩
theorem ml64 : Go.Proofs.Lays.n264 Tryz.prog ml64_ren where
  mixed := by kernel_rfl
  f264 := Tryz.func176.trans (congrArg some (by kernel_rfl))
  t46 := Tryz.underlying104
  a46 := Tryz.isAgg104
  z46 := Tryz.sizeOf104
  v46 := Tryz.zeroValue104
  t53 := Tryz.underlying131
  a53 := Tryz.isAgg131
  z53 := Tryz.sizeOf131
  v53 := Tryz.zeroValue131
end Go.Proofs.YtjnhoemgceghlaaGreat
namespace Go.Proofs.YtjnhoemgceghlaaGreat
open Go.Eng Go.Sol
attribute [local irreducible] opK wpList Code.wp Exit.then Exit.inBlock fnPost bodyPost Nx Calls Oper.wp Rd Rds Wr Ent Stars Blk Again Vec FnSpec wpMix QRun Stop Upto wpAt
/-! slices.Repeat -/
set_option maxHeartbeats 8000000 in
theorem mulU64_spec (x y : Nat) (hx : x < 18446744073709551616) (hy : y < 18446744073709551616) (I : PH) :
    FnSpec Tryz.prog 176 [.int .u64 x, .int .u64 y] I [] (fun v R' => v = .tuple #[.int .u64 ((x * y / 18446744073709551616 : Nat) : Int), .int .u64 ((x * y % 18446744073709551616 : Nat) : Int)] ∧ R' = []) :=
  FnSpec.of_same fun w _ _ _ => Any.bits_Mul64 ml64 x y hx hy w
set_option maxHeartbeats 8000000 in
set_option maxRecDepth 10000 in
theorem mulU_spec (y : Nat) (hy : y < 18446744073709551616) (I : PH) :
    FnSpec Tryz.prog 167 [.int .u64 1, .int .u64 y] I [] (fun v R' => v = .tuple #[.int .u64 0, .int .u64 (y : Int)] ∧ R' = []) := by
  have hM := mulU64_spec 1 y (by omega) hy I
  rw [Nat.one_mul, Nat.div_eq_of_lt hy, Nat.mod_eq_of_lt hy] at hM
  refine FnSpec.enterP Tryz.func167 rfl Tryz.ntmps167 rfl fun w F => ?_
  repeat' first
    | ((with_reducible refine Nx.is_wp ?_); first | refine Nx.wo ?_ | refine Nx.zp (fun hc => ?_) (fun hc => ?_))
    | (refine Nx.zo ?_; first | refine Nx.opr rfl rfl ?_ | (refine Nx.call (Rpre := []) rfl rfl rfl (by kernel_rfl) rfl hM (Ent.refl _) ?_; rintro _ _ ⟨rfl, rfl⟩) | refine Nx.so ?_ | refine Nx.sb (fun bx => ?_) | refine Nx.sa (fun A2 c2 => ?_))
    | ((with_reducible refine Nx.is_at ?_); first | refine Nx.a ?_ | refine Nx.zd ?_ | refine Nx.zs (fun hc => ?_) (fun hc => ?_))
    | ((with_reducible refine Nx.is_mix ?_); first | refine Nx.m ?_ | refine Nx.zm ?_ | refine Nx.zt (fun hc => ?_) (fun hc => ?_))
    | refine Nx.zx ?_ | fail
  exact Nx.ret_fn rfl [] ⟨rfl, rfl⟩ (by (exact Ent.auto))
set_option maxRecDepth 10000 in
set_option maxHeartbeats 8000000 in
theorem RepeatI_spec (cx : List Value) (hcx : cx.length = 1) (h1 : ∀ v ∈ cx, v.oneCell' = true) (b n : Nat) (hn1 : 1 ≤ n) (hn : n ≤ 4096) (I : PH) :
    FnSpec Tryz.prog 150 [.slice (some ⟨b, 0, none⟩) 1 1, .int .i64 (n : Int)] I [Blk b 3 cx] (fun v R' => ∃ b', v = .slice (some ⟨b', 0, none⟩) n n ∧ R' = [Vec 3 1 (some ⟨b', 0, none⟩) n n (List.replicate n cx).flatten]) := by
  have hM := mulU_spec n (by omega) I
  have hB : (n : Int) % B64 = n := by unfold B64; omega
  have hB1 : ((1 : Nat) : Int) % B64 = 1 := by unfold B64; decide
  refine FnSpec.enterP Tryz.func150 rfl Tryz.ntmps150 rfl fun w F => ?_
  repeat' first
    | ((with_reducible refine Nx.is_wp ?_); first | refine Nx.wo ?_ | refine Nx.zp (fun hc => ?_) (fun hc => ?_))
    | (refine Nx.zo ?_; first | refine Nx.opr rfl rfl ?_ | (refine Nx.call (Rpre := []) rfl rfl rfl (by kernel_rfl) rfl hM (Ent.refl _) ?_; rintro _ _ ⟨rfl, rfl⟩) | (refine Nx.conv_u64 (p := ((1 : Nat) : Int)) rfl rfl rfl rfl ?_; rw [hB1]) | (refine Nx.conv_u64 (p := (n : Int)) rfl rfl rfl rfl ?_; rw [hB]) | refine Nx.conv_i64 (p := (n : Int)) rfl rfl rfl (by unfold I64; omega) rfl ?_ | refine Nx.makeSlice (by_ := 8) (m := n) rfl rfl rfl rfl rfl rfl rfl rfl rfl (by omega) (by unfold maxLen; omega) (fun bx => ?_) | refine Nx.so ?_ | refine Nx.sb (fun bx => ?_) | refine Nx.sa (fun A2 c2 => ?_))
    | ((with_reducible refine Nx.is_at ?_); first | refine Nx.a ?_ | refine Nx.zd ?_ | refine Nx.zs (fun hc => ?_) (fun hc => ?_))
    | ((with_reducible refine Nx.is_mix ?_); first | refine Nx.m ?_ | refine Nx.zm ?_ | refine Nx.zt (fun hc => ?_) (fun hc => ?_))
    | refine Nx.zx ?_ | fail
  revert bx; intro b7
  generalize hx0 : List.replicate n (Value.int .i64 0) = x0
  have hF0 : Filled cx 1 n 1 (x0.take 0 ++ cx ++ x0.drop (0 + cx.length)) := Filled.start hcx h1 (by rw [← hx0]; simp) (fun v hv => by rw [← hx0] at hv; rw [List.eq_of_mem_replicate hv]; rfl) hn1
  repeat' first
    | ((with_reducible refine Nx.is_wp ?_); first | refine Nx.wo ?_ | refine Nx.zp (fun hc => ?_) (fun hc => ?_))
    | (refine Nx.zo ?_; first | refine Nx.opr rfl rfl ?_ | refine Nx.copy_ (k := 1) (sz := 1) (cs := cx) rfl rfl rfl rfl rfl rfl (by show 1 = min 1 n; omega) (by omega) (Rds.at_ 1 rfl) (Wr.vecNs0 (by omega) (by omega) h1) ?_ | refine Nx.so ?_ | refine Nx.sb (fun bx => ?_) | refine Nx.sa (fun A2 c2 => ?_))
    | ((with_reducible refine Nx.is_at ?_); first | refine Nx.a ?_ | refine Nx.zd ?_ | refine Nx.zs (fun hc => ?_) (fun hc => ?_))
    | ((with_reducible refine Nx.is_mix ?_); first | refine Nx.m ?_ | refine Nx.zm ?_ | refine Nx.zt (fun hc => ?_) (fun hc => ?_))
    | refine Nx.zx ?_ | fail
  refine Nx.p_loop (σ := Nat × List Value) (fun s => [(7, .slice (some ⟨b7, 0, none⟩) n n), (8, .int .i64 (s.1 : Int))]) (fun s => [Vec 3 1 (some ⟨b7, 0, none⟩) n n s.2, F]) (fun s => 1 ≤ s.1 ∧ s.1 ≤ n ∧ Filled cx 1 n s.1 s.2) (fun s => n - s.1) (1, x0.take 0 ++ cx ++ x0.drop (0 + cx.length)) rfl ⟨Nat.le_refl _, hn1, hF0⟩ ⟨rfl, rfl, trivial⟩ (by (exact Ent.auto)) ?_
  rintro ⟨m, xs⟩ ⟨hm1, hmn, hF⟩
  dsimp only at hm1 hmn hF ⊢
  by_cases hlt : m < n
  case neg =>
    obtain rfl : m = n := by omega
    have hd := hF.done
    subst hd
    repeat' first
      | ((with_reducible refine Nx.is_wp ?_); first | refine Nx.wo ?_ | refine Nx.zp (fun hc => ?_) (fun hc => ?_))
      | (refine Nx.zo ?_; first | refine Nx.opr rfl rfl ?_ | refine Nx.so ?_ | refine Nx.sb (fun bx => ?_) | refine Nx.sa (fun A2 c2 => ?_))
      | ((with_reducible refine Nx.is_at ?_); first | refine Nx.a ?_ | refine Nx.zd ?_ | refine Nx.zs (fun hc => ?_) (fun hc => ?_))
      | ((with_reducible refine Nx.is_mix ?_); first | refine Nx.m ?_ | refine Nx.zm ?_ | refine Nx.zt (fun hc => ?_) (fun hc => ?_))
      | refine Nx.zx ?_ | fail
    exact Nx.ret_fn rfl [_] ⟨b7, rfl, rfl⟩ (by (exact Ent.auto))
  have hst := hF.step hcx (k := min m (n - m)) (by omega) (by omega)
  have hxl := hF.len
  repeat' first
    | ((with_reducible refine Nx.is_wp ?_); first | refine Nx.wo ?_ | refine Nx.p_drawF (id := 9) rfl [0, 1, 2, 3, 4, 5, 6, 7, 8, 9] [7] [] _ rfl rfl (by kernel_rfl) (by kernel_rfl) rfl (by repeat first | exact PanicOk.fn | refine PanicOk.then_ ?_ | refine PanicOk.inB ?_) (Ent.eraseK 0 _) ?_ | refine Nx.zp (fun hc => ?_) (fun hc => ?_))
    | (refine Nx.zo ?_; first | refine Nx.opr rfl rfl ?_ | refine Nx.copy_ (k := min m (n - m)) (sz := 1) (cs := xs.take (min m (n - m) * 1)) rfl rfl rfl rfl rfl rfl rfl (by rw [List.length_take]; omega) Rds.vec_take (Wr.vecNs (A := some ⟨b7, 0, none⟩) (i := m * 1) (by rw [List.length_take]; omega) (by rw [List.length_take]; omega) (fun v hv => hF.one v (List.mem_of_mem_take hv))) ?_ | refine Nx.so ?_ | refine Nx.sb (fun bx => ?_) | refine Nx.sa (fun A2 c2 => ?_))
    | ((with_reducible refine Nx.is_at ?_); first | refine Nx.a ?_ | refine Nx.zd ?_ | refine Nx.zs (fun hc => ?_) (fun hc => ?_))
    | ((with_reducible refine Nx.is_mix ?_); first | refine Nx.m_quiet rfl rfl rfl rfl rfl (by first | exact QRun.opr rfl | exact QRun.slice_from (sz := 1) rfl rfl rfl rfl hlt (Nat.le_refl _) | exact QRun.slice_hi (sz := 1) rfl rfl rfl rfl hmn) ?_ | refine Nx.m_quiet_do rfl rfl rfl rfl rfl rfl rfl (by first | exact QRun.opr rfl | exact QRun.slice_from (sz := 1) rfl rfl rfl rfl hlt (Nat.le_refl _) | exact QRun.slice_hi (sz := 1) rfl rfl rfl rfl hmn) ?_ | refine Nx.m ?_ | refine Nx.zm ?_ | refine Nx.zt (fun hc => ?_) (fun hc => ?_))
    | refine Nx.zx ?_ | fail
  exact Nx.again (m + min m (n - m), _) ⟨by dsimp only; omega, by dsimp only; omega, hst⟩ (by dsimp only; omega) ⟨rfl, rfl, trivial⟩ (by (exact Ent.auto))
end Go.Proofs.YtjnhoemgceghlaaGreat
