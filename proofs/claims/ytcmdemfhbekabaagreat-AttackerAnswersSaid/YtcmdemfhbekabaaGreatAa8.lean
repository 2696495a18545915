/- Contracts of functions of the given program, and lemmas about plain lists and numbers: what the laws of this seat lean on. -/
import Derived.Laws.StructEq
import Derived.Laws.Small
import Derived.Maps.RangeRun
import Derived.Test.YtcmdemfhbekabaaGreatAa7
namespace Go.Proofs.YtcmdemfhbekabaaGreat
open Go.Eng Go.Sol
attribute [local irreducible] opK wpList Code.wp Exit.then Exit.inBlock fnPost bodyPost Nx Calls Oper.wp Rd Rds Wr Ent Stars Blk Again Vec FnSpec wpMix QRun Stop Upto wpAt
/-! Plain: the reference's search finds the same, in the same order -/
theorem asc_eqns {n : Nat} {l : List EqR} (hg : ∀ q ∈ l, GoodE n q) : Asc n (eqns l) := by
  refine ⟨fun q hq => ?_, fun q hq c hc => ?_, fun q hq => (cells_bd hg q hq).1⟩
  · obtain ⟨x, hx, rfl⟩ := List.mem_map.1 hq
    exact toNat_asc (hg x hx).asc fun y hy => ((hg x hx).lt y hy).1
  · obtain ⟨x, hx, rfl⟩ := List.mem_map.1 hq
    have := (hg x hx).lt _ ((mem_eqn (hg x hx)).1 hc)
    omega
theorem nil_at (c : Nat) : (0 : Int) ≤ ([] : List Int).getD c 0 := by rw [getD_ge (Nat.zero_le _)]; exact Int.le_refl _
theorem from_goes {n : Nat} {l : List EqR} (hg : ∀ q ∈ l, GoodE n q) {s : List Int} : From (eqns l) n [] s ↔ Goes n 1000000 (eqns l) (touch n (eqns l)) (List.replicate n 0) s := by
  have ha := asc_eqns hg
  constructor
  · intro h
    have hlen : s.length = n := by have := h.len; rwa [List.length_nil, Nat.zero_add] at this
    have hnn : ∀ c, 0 ≤ s.getD c 0 := fun c => (h.pos c (Nat.zero_le _)).1
    refine ⟨hlen, fun c hc => ?_, fun c hc => ⟨hnn c, ?_⟩, h.sum⟩
    · rw [zeros_at]
      rcases Nat.lt_or_ge c n with hcn | hcn
      · exact (h.pos c (Nat.zero_le _)).2 fun q hq hx => hc (mem_touch.2 ⟨hcn, q, hq, hx⟩)
      · exact getD_ge (by omega)
    · obtain ⟨_, q, hq, hx⟩ := mem_touch.1 hc
      have h1 := le_sumC (s := s) (c := c) (cs := q.1) (fun d _ => hnn d) hx
      rw [h.sum q hq] at h1
      have := (cells_bd hg q hq).2
      omega
  · intro h
    refine ⟨by rw [h.len, List.length_nil, Nat.zero_add], rfl, fun c _ => ?_, h.sum⟩
    by_cases hc : c ∈ touch n (eqns l)
    · refine ⟨(h.pos c hc).1, fun hno => ?_⟩
      obtain ⟨_, q, hq, hx⟩ := mem_touch.1 hc
      exact absurd hx (hno q hq)
    · have := h.same c hc
      rw [zeros_at] at this
      rw [this]; exact ⟨Int.le_refl _, fun _ => rfl⟩
theorem mem_rsols {n : Nat} {l : List EqR} (hg : ∀ q ∈ l, GoodE n q) {s : List Int} : s ∈ rs (eqns l) n [] ↔ s ∈ solsOf n (eqns l) := by
  rw [mem_sols hg, ← from_goes hg]
  exact mem_rs (asc_eqns hg) (by simp) nil_at
theorem once_eqns {n : Nat} {l : List EqR} (hg : ∀ q ∈ l, GoodE n q) : Once (eqns l) := (asc_eqns hg).once
theorem sols_sorted {n : Nat} {l : List EqR} (hg : ∀ q ∈ l, GoodE n q) : (solsOf n (eqns l)).Pairwise (ltU false (touch n (eqns l))) :=
  enum_sorted (once_eqns hg) (inv_start hg (touch_nd _ _) fun _ => Iff.rfl)
theorem rs_sols {n : Nat} {l : List EqR} (hg : ∀ q ∈ l, GoodE n q) : rs (eqns l) n [] = solsOf n (eqns l) := by
  refine sorted_same (fun _ => ltU_irrefl) (fun _ _ => ltU_asymm) ?_ (sols_sorted hg) fun s => mem_rsols hg
  refine List.Pairwise.imp_of_mem (fun {a b} hia hib hab => ?_) (rs_sorted (asc_eqns hg) (k := n) (t := []) (by simp) nil_at)
  have ga := (mem_sols hg).1 ((mem_rsols hg).1 hia)
  have gb := (mem_sols hg).1 ((mem_rsols hg).1 hib)
  rw [List.length_nil, ← List.range_eq_range'] at hab
  unfold touch
  refine ltU_filter (fun c hc hp => ?_) hab
  have hno : c ∉ touch n (eqns l) := fun h => by
    have := (List.mem_filter.1 h).2
    rw [hp] at this; cases this
  rw [ga.same c hno, gb.same c hno]
/-! Products -/
def prodF (L : List Eqn) : Nat → Int
  | 0 => 1
  | k + 1 => prodF L k * max 1 (roomR L k)
theorem prodF_pos (L : List Eqn) : ∀ k, 1 ≤ prodF L k
  | 0 => Int.le_refl _
  | k + 1 => by
    have h1 : (1 : Int) * 1 ≤ prodF L k * max 1 (roomR L k) := Int.mul_le_mul (prodF_pos L k) (by omega) (by omega) (by have := prodF_pos L k; omega)
    rw [prodF]; omega
theorem prodF_step (L : List Eqn) (k : Nat) : prodF L k ≤ prodF L (k + 1) := by
  have h0 := prodF_pos L k
  have h1 : prodF L k * 1 ≤ prodF L k * max 1 (roomR L k) := Int.mul_le_mul_of_nonneg_left (by omega) (by omega)
  rw [prodF]; omega
theorem prodF_mono (L : List Eqn) {k : Nat} : ∀ {n : Nat}, k ≤ n → prodF L k ≤ prodF L n
  | 0, h => by rw [show k = 0 by omega]; exact Int.le_refl _
  | n + 1, h => by
    rcases Nat.lt_or_ge n k with h' | h'
    · rw [show k = n + 1 by omega]; exact Int.le_refl _
    · exact Int.le_trans (prodF_mono L h') (prodF_step L n)
theorem prodR_prodF (L : List Eqn) : ∀ (k a : Nat), prodF L a * prodR L (List.range' a k) = prodF L (a + k)
  | 0, a => by rw [List.range'_zero, prodR, Int.mul_one]; rfl
  | k + 1, a => by
    rw [List.range'_succ, prodR, ← Int.mul_assoc, show prodF L a * max 1 (roomR L a) = prodF L (a + 1) from rfl, prodR_prodF L k (a + 1), show a + 1 + k = a + (k + 1) by omega]
theorem rs_count {n : Nat} (L : List Eqn) : ((rs L n []).length : Int) ≤ prodF L n := by
  have h1 := rs_len (L := L) n []
  have h2 := prodR_prodF L n 0
  rw [show prodF L 0 = 1 from rfl, Int.one_mul, Nat.zero_add] at h2
  rw [List.length_nil, h2] at h1
  exact h1
def prodX : List Int → Int
  | [] => 1
  | x :: r => x * prodX r
theorem prodX_app (a b : List Int) : prodX (a ++ b) = prodX a * prodX b := by
  induction a with
  | nil => rw [List.nil_append, prodX, Int.one_mul]
  | cons x r ih => rw [List.cons_append, prodX, prodX, ih, Int.mul_assoc]
theorem prodX_pos : ∀ {xs : List Int}, (∀ x ∈ xs, 1 ≤ x) → 1 ≤ prodX xs
  | [], _ => Int.le_refl _
  | x :: r, h => by
    have h1 : (1 : Int) * 1 ≤ x * prodX r := Int.mul_le_mul (h x (by simp)) (prodX_pos fun y hy => h y (by simp [hy])) (by omega) (by have := h x (by simp); omega)
    rw [prodX]; omega
theorem sizeB_iff : ∀ {xs : List Int} {a : Int}, (∀ x ∈ xs, 1 ≤ x) → 1 ≤ a → a ≤ 65536 → (sizeB a xs = true ↔ a * prodX xs ≤ 65536)
  | [], a, _, _, h9 => by rw [sizeB, prodX, Int.mul_one]; exact ⟨fun _ => h9, fun _ => rfl⟩
  | x :: r, a, hx, h1, h9 => by
    have hx1 := hx x (by simp)
    have hp := prodX_pos (xs := r) fun y hy => hx y (by simp [hy])
    have hax : (1 : Int) * 1 ≤ a * x := Int.mul_le_mul h1 hx1 (by omega) (by omega)
    rw [sizeB, prodX, ← Int.mul_assoc]
    by_cases h : a * x ≤ 65536
    · rw [decide_eq_true h, Bool.true_and]
      exact sizeB_iff (fun y hy => hx y (by simp [hy])) (by omega) h
    · rw [decide_eq_false h, Bool.false_and]
      have h2 : a * x * 1 ≤ a * x * prodX r := Int.mul_le_mul_of_nonneg_left hp (by omega)
      exact ⟨fun h' => (by cases h'), fun h' => by omega⟩
theorem le_roomOf {c : Nat} {v : Int} : ∀ (L : List Eqn), v ≤ roomOf L c ↔ v ≤ 1000001 ∧ ∀ q ∈ L, c ∈ q.1 → v ≤ q.2 + 1 := by
  refine snoc_ind ?_ ?_
  · exact ⟨fun h => ⟨h, fun q hq => (nomatch hq)⟩, fun h => h.1⟩
  · intro L q ih
    rw [room_snoc]
    by_cases hc : c ∈ q.1
    · rw [if_pos hc, Int.le_min, ih]
      refine ⟨fun h => ⟨h.1.1, fun p hp hcp => ?_⟩, fun h => ⟨⟨h.1, fun p hp => h.2 p (by simp [hp])⟩, h.2 q (by simp) hc⟩⟩
      rcases List.mem_append.1 hp with hp | hp
      · exact h.1.2 p hp hcp
      · rw [List.mem_singleton] at hp; subst hp; exact h.2
    · rw [if_neg hc, ih]
      refine ⟨fun h => ⟨h.1, fun p hp hcp => ?_⟩, fun h => ⟨h.1, fun p hp => h.2 p (by simp [hp])⟩⟩
      rcases List.mem_append.1 hp with hp | hp
      · exact h.2 p hp hcp
      · rw [List.mem_singleton] at hp; subst hp; exact absurd hcp hc
theorem room_same {L : List Eqn} {c : Nat} (hv : ∀ q ∈ L, 0 ≤ q.2 ∧ q.2 ≤ 1000000) (hc : ∃ q ∈ L, c ∈ q.1) : roomR L c = roomOf L c ∧ 1 ≤ roomR L c := by
  obtain ⟨h1, h2, h3⟩ := roomR_facts (c := c) L fun q hq => (hv q hq).1
  obtain ⟨q0, hq0, hc0⟩ := hc
  have hne : roomR L c ≠ 0 := fun h => h2.1 h q0 hq0 hc0
  have h3 := h3 hne
  refine ⟨?_, by omega⟩
  have ha : roomR L c ≤ roomOf L c := (le_roomOf L).2 ⟨by have := (h3 (roomR L c - 1)).1 (Int.le_refl _) q0 hq0 hc0; have := (hv q0 hq0).2; omega, fun q hq hx => by have := (h3 (roomR L c - 1)).1 (Int.le_refl _) q hq hx; omega⟩
  have hb := (h3 (roomOf L c - 1)).2 fun q hq hx => by have := ((le_roomOf L).1 (Int.le_refl (roomOf L c))).2 q hq hx; omega
  omega
theorem touch_succ (n : Nat) (L : List Eqn) : touch (n + 1) L = touch n L ++ if L.any fun q => decide (n ∈ q.1) then [n] else [] := by
  unfold touch
  rw [List.range_succ, List.filter_append]
  congr 1
  rw [List.filter_cons, List.filter_nil]
theorem prod_same {L : List Eqn} (hv : ∀ q ∈ L, 0 ≤ q.2 ∧ q.2 ≤ 1000000) : ∀ n, prodX (roomsOf n L) = prodF L n
  | 0 => rfl
  | n + 1 => by
    unfold roomsOf
    rw [touch_succ, List.map_append, prodX_app, prodF]
    have ih := prod_same hv n
    unfold roomsOf at ih
    rw [ih]
    congr 1
    by_cases h : (L.any fun q => decide (n ∈ q.1)) = true
    · rw [if_pos h]
      obtain ⟨q, hq, hn⟩ := List.any_eq_true.1 h
      have hr := room_same (c := n) hv ⟨q, hq, of_decide_eq_true hn⟩
      show roomOf L n * 1 = _
      rw [← hr.1]; omega
    · rw [if_neg h]
      have := (roomR_facts (c := n) L fun q hq => (hv q hq).1).2.1.2 fun q hq hx => h (List.any_eq_true.2 ⟨q, hq, decide_eq_true hx⟩)
      rw [this]; rfl
theorem small_iff {n : Nat} {l : List EqR} (hg : ∀ q ∈ l, GoodE n q) : smallB n (eqns l) = true ↔ prodF (eqns l) n ≤ 65536 := by
  have hv := cells_bd hg
  unfold smallB
  rw [sizeB_iff (fun x hx => ?_) (Int.le_refl _) (by decide), Int.one_mul, prod_same hv]
  obtain ⟨c, _, rfl⟩ := List.mem_map.1 hx
  exact (room_bd fun q hq => (hv q hq).1).1
/-! The first table with the least, or the greatest, number at a cell -/
end Go.Proofs.YtcmdemfhbekabaaGreat
/- Contracts of functions of the given program, and lemmas about plain lists and numbers: what the laws of this seat lean on. -/
namespace Go.Proofs.YtcmdemfhbekabaaGreat
open Go.Eng Go.Sol
attribute [local irreducible] opK wpList Code.wp Exit.then Exit.inBlock fnPost bodyPost Nx Calls Oper.wp Rd Rds Wr Ent Stars Blk Again Vec FnSpec wpMix QRun Stop Upto wpAt
/-! The reference's functions -/
theorem rest_nil (l : List EqR) : restL (eqns l) [] = valsL l := rest_start 0 l
set_option maxRecDepth 10000 in
set_option maxHeartbeats 8000000 in
theorem all_spec (A : Option Addr) (c : Nat) (l : List EqR) (n most : Nat) (I : PH) (hl : Eqs I A c l) (hg : ∀ q ∈ l, GoodE n q) (hn9 : n ≤ 4096) (hll : l.length ≤ 100000) (hm9 : most ≤ 1000000) :
    FnSpec Tryz.prog 61 [.int .i64 (n : Int), .slice A l.length c, .int .i64 (most : Int)] I []
      (fun v R' => ∃ (A' : Option Addr) (c' : Nat) (o : List Row), v = .slice A' o.length c' ∧ o.map (·.2.2) = (solsOf n (eqns l)).take most ∧ R' = rowsR A' c' o) := by
  have hlen := hl.len
  refine FnSpec.enterP Tryz.func61 rfl Tryz.ntmps61 rfl fun w F => ?_
  repeat' first
    | ((with_reducible refine Nx.is_wp ?_); first | refine Nx.wo ?_ | refine Nx.zp (fun hc => ?_) (fun hc => ?_))
    | (refine Nx.zo ?_; first | refine Nx.opr rfl rfl ?_ | refine Nx.so ?_ | refine Nx.sb (fun bx => ?_) | refine Nx.sa (fun A2 c2 => ?_))
    | ((with_reducible refine Nx.is_at ?_); first | refine Nx.a ?_ | refine Nx.zd ?_ | refine Nx.zs (fun hc => ?_) (fun hc => ?_))
    | ((with_reducible refine Nx.is_mix ?_); first | refine Nx.m ?_ | refine Nx.zm ?_ | refine Nx.zt (fun hc => ?_) (fun hc => ?_))
    | refine Nx.zx ?_ | fail
  refine Nx.p_loop (σ := Nat × Option Addr × Nat) (fun s => [(0, .int .i64 (n : Int)), (1, .slice A l.length c), (2, .int .i64 (most : Int)), (7, .slice s.2.1 (valsL (l.take s.1)).length s.2.2), (10, .slice A l.length c), (11, .int .i64 l.length), (12, .int .i64 (s.1 : Int))])
    (fun s => [iR s.2.1 s.2.2 (valsL (l.take s.1)), F]) (fun s => s.1 ≤ l.length) (fun s => l.length - s.1) (0, none, 0) rfl (Nat.zero_le _) ⟨rfl, rfl, rfl, rfl, rfl, rfl, rfl, trivial⟩ ((Ent.vec_nil 3 1 _).trans (by unfold iR; (exact Ent.auto))) ?_
  rintro ⟨k, A1, c1⟩ hk
  dsimp only at hk ⊢
  have hvl : (valsL (l.take k)).length ≤ 1000000 := by rw [vals_len, List.length_take]; omega
  by_cases hlt : k < l.length
  · have hvs := vals_snoc hlt
    have hrds : ∀ (W : World) (R : List Res), Rds W I R ((ad A).add (k * 2)) (eqC (l.getD k default)) := fun W R => hl.outer.rds hlt
    generalize l.getD k default = q at hvs hrds
    obtain ⟨⟨Ax, cx, ix⟩, z⟩ := q
    dsimp only at hvs
    replace hrds : ∀ (W : World) (R : List Res), Rds W I R ((ad A).add (k * 2)) [.slice Ax ix.length cx, .int .i64 z] := hrds
    generalize valsL (l.take k) = vs at hvs hvl ⊢
    repeat' first
      | ((with_reducible refine Nx.is_wp ?_); first | refine Nx.wo ?_ | refine Nx.zp (fun hc => ?_) (fun hc => ?_))
      | (refine Nx.zo ?_; first | refine Nx.opr rfl rfl ?_ | refine Nx.indexAddr_nat rfl rfl rfl rfl rfl (by omega) (hl.outer.isSome (by omega) (by omega)) ?_ | refine Nx.loads rfl rfl rfl rfl (hrds _ _) rfl ?_ | refine Nx.so ?_ | refine Nx.sb (fun bx => ?_) | refine Nx.sa (fun A2 c2 => ?_))
      | ((with_reducible refine Nx.is_at ?_); first | refine Nx.a ?_ | refine Nx.zd ?_ | refine Nx.zs (fun hc => ?_) (fun hc => ?_))
      | ((with_reducible refine Nx.is_mix ?_); first | refine Nx.m ?_ | refine Nx.zm ?_ | refine Nx.zt (fun hc => ?_) (fun hc => ?_))
      | refine Nx.zx ?_ | fail
    exact Nx.again (k + 1, A2, c2) hlt (by dsimp only; omega) ⟨rfl, rfl, rfl, by dsimp only; rw [hvs, List.length_append]; rfl, rfl, rfl, rfl, trivial⟩ (by dsimp only; rw [hvs]; unfold iR; rw [List.length_append, List.map_append]; (exact Ent.auto))
  obtain rfl : k = l.length := by omega
  rw [List.take_length]
  have hvl2 := vals_len l
  refine Nx.freezeAt 0 rfl fun I2 m2 hI2 hm2 h2 => ?_
  have hS : FnSpec Tryz.prog 106 [.slice A l.length c, .int .i64 (n : Int), .int .i64 0, .slice none 0 0, .slice A1 l.length c1, .slice none 0 0, .int .i64 (most : Int)] I2 [Vec 25 1 none 0 0 [], Stars []] (SrPost most [] (rs (eqns l) n [])) :=
    rsearch_spec A c l n most hg hn9 hm9 hll n I2 (hl.mono hI2) [] (by simp) (fun q hq => by
      have h := cells_bd hg q hq
      have : restQ [] q = q.2 := by
        have := sumC_zero 0 q.1
        unfold restQ; rw [show ([] : List Int) = List.replicate 0 0 from rfl, this]; omega
      rw [this]; exact h) none 0 SliceOf.nil A1 c1 (by rw [rest_nil]; exact Vec.sliceOf (t := 3) hm2 h2) none 0 [] (Nat.zero_le _)
  unfold SrPost at hS
  rw [rs_sols hg] at hS
  rw [hvl2]
  refine Nx.ent (R' := [Vec 25 1 none 0 0 [], Stars [], F]) ((Ent.stars_nil _).trans ((Ent.vec_nil 25 1 _).trans (by (exact Ent.auto)))) ?_
  repeat' first
    | ((with_reducible refine Nx.is_wp ?_); first | refine Nx.wo ?_ | refine Nx.zp (fun hc => ?_) (fun hc => ?_))
    | (refine Nx.zo ?_; first | refine Nx.opr rfl rfl ?_ | (refine Nx.call rfl rfl rfl (by kernel_rfl) rfl hS (by (exact Ent.auto)) ?_; rintro _ _ ⟨A5, c5, o5, rfl, ho5, rfl⟩) | refine Nx.so ?_ | refine Nx.sb (fun bx => ?_) | refine Nx.sa (fun A2 c2 => ?_))
    | ((with_reducible refine Nx.is_at ?_); first | refine Nx.a ?_ | refine Nx.zd ?_ | refine Nx.zs (fun hc => ?_) (fun hc => ?_))
    | ((with_reducible refine Nx.is_mix ?_); first | refine Nx.m ?_ | refine Nx.zm ?_ | refine Nx.zt (fun hc => ?_) (fun hc => ?_))
    | refine Nx.zx ?_ | fail
  exact Nx.imm_le hI2 (Nx.ret_fn rfl [_, _] ⟨A5, c5, o5, rfl, ho5, rfl⟩ (by (exact Ent.auto)))
set_option maxRecDepth 10000 in
set_option maxHeartbeats 8000000 in
theorem rcheck_spec (n : Int) (A : Option Addr) (c : Nat) (l : List EqR) (I : PH) (hl : Eqs I A c l) :
    FnSpec Tryz.prog 60 [.int .i64 n, .slice A l.length c] I [] (fun v R' => v = .int .i64 (chkQ n l) ∧ R' = []) := by
  have hV := RValid_spec n A c l I hl
  unfold chkQ
  refine FnSpec.enterP Tryz.func60 rfl Tryz.ntmps60 rfl fun w F => ?_
  cases hv : validB n l with
  | false =>
    rw [hv] at hV
    repeat' first
      | ((with_reducible refine Nx.is_wp ?_); first | refine Nx.wo ?_ | refine Nx.zp (fun hc => ?_) (fun hc => ?_))
      | (refine Nx.zo ?_; first | refine Nx.opr rfl rfl ?_ | refine Nx.callv rfl rfl rfl (by kernel_rfl) rfl hV ?_ | refine Nx.so ?_ | refine Nx.sb (fun bx => ?_) | refine Nx.sa (fun A2 c2 => ?_))
      | ((with_reducible refine Nx.is_at ?_); first | refine Nx.a ?_ | refine Nx.zd ?_ | refine Nx.zs (fun hc => ?_) (fun hc => ?_))
      | ((with_reducible refine Nx.is_mix ?_); first | refine Nx.m ?_ | refine Nx.zm ?_ | refine Nx.zt (fun hc => ?_) (fun hc => ?_))
      | refine Nx.zx ?_ | fail
    exact Nx.ret_fn rfl [] ⟨rfl, rfl⟩ (by (exact Ent.auto))
  | true =>
    rw [hv] at hV
    obtain ⟨h1, h2, h3⟩ := valid_good hv
    obtain ⟨m, rfl⟩ : ∃ m : Nat, n = m := ⟨n.toNat, by omega⟩
    rw [Int.toNat_natCast] at h3 ⊢
    rw [if_neg (by decide)]
    have hR := fun x => room_spec A c l m x I hl h3
    repeat' first
      | ((with_reducible refine Nx.is_wp ?_); first | refine Nx.wo ?_ | refine Nx.zp (fun hc => ?_) (fun hc => ?_))
      | (refine Nx.zo ?_; first | refine Nx.opr rfl rfl ?_ | refine Nx.callv rfl rfl rfl (by kernel_rfl) rfl hV ?_ | refine Nx.so ?_ | refine Nx.sb (fun bx => ?_) | refine Nx.sa (fun A2 c2 => ?_))
      | ((with_reducible refine Nx.is_at ?_); first | refine Nx.a ?_ | refine Nx.zd ?_ | refine Nx.zs (fun hc => ?_) (fun hc => ?_))
      | ((with_reducible refine Nx.is_mix ?_); first | refine Nx.m ?_ | refine Nx.zm ?_ | refine Nx.zt (fun hc => ?_) (fun hc => ?_))
      | refine Nx.zx ?_ | fail
    refine Nx.p_loop (σ := Nat) (fun k => [(0, .int .i64 (m : Int)), (1, .slice A l.length c), (5, .int .i64 (prodF (eqns l) k)), (6, .int .i64 (k : Int))])
      (fun _ => [F]) (fun k => k ≤ m ∧ prodF (eqns l) k ≤ 65536) (fun k => m - k) 0 rfl ⟨Nat.zero_le _, by rw [prodF]; decide⟩ ⟨rfl, rfl, rfl, rfl, trivial⟩ (by (exact Ent.auto)) ?_
    rintro k ⟨hk, hp⟩
    by_cases hlt : k < m
    · have hrb := roomR_bd h3 k l.length
      rw [List.take_length] at hrb
      have hp1 := prodF_pos (eqns l) k
      have hps : prodF (eqns l) (k + 1) = prodF (eqns l) k * max 1 (roomR (eqns l) k) := rfl
      have hmono := prodF_mono (eqns l) (show k + 1 ≤ m from hlt)
      have hsi := small_iff h3
      have hbig : prodF (eqns l) k * max 1 (roomR (eqns l) k) ≤ 65536 * 1000001 := Int.mul_le_mul hp (by omega) (by omega) (by omega)
      have hsm : 0 ≤ prodF (eqns l) k * max 1 (roomR (eqns l) k) := Int.mul_nonneg (by omega) (by omega)
      by_cases hle : prodF (eqns l) (k + 1) ≤ 65536
      · rw [hps] at hle
        repeat' first
          | ((with_reducible refine Nx.is_wp ?_); first | refine Nx.wo ?_ | refine Nx.zp (fun hc => ?_) (fun hc => ?_))
          | (refine Nx.zo ?_; first | refine Nx.opr rfl rfl ?_ | refine Nx.callv rfl rfl rfl (by kernel_rfl) rfl (hR _) ?_ | refine Nx.so ?_ | refine Nx.sb (fun bx => ?_) | refine Nx.sa (fun A2 c2 => ?_))
          | ((with_reducible refine Nx.is_at ?_); first | refine Nx.a ?_ | refine Nx.zd ?_ | refine Nx.zs (fun hc => ?_) (fun hc => ?_))
          | ((with_reducible refine Nx.is_mix ?_); first | refine Nx.m ?_ | refine Nx.zm ?_ | refine Nx.zt (fun hc => ?_) (fun hc => ?_))
          | refine Nx.zx ?_ | fail
        exact Nx.again (k + 1) ⟨hlt, hle⟩ (by omega) ⟨rfl, rfl, rfl, rfl, trivial⟩ (by (exact Ent.auto))
      · have hno : smallB m (eqns l) = false := by
          cases hs : smallB m (eqns l) with
          | false => rfl
          | true => have := hsi.1 hs; omega
        rw [if_pos hno]
        rw [hps] at hle
        repeat' first
          | ((with_reducible refine Nx.is_wp ?_); first | refine Nx.wo ?_ | refine Nx.zp (fun hc => ?_) (fun hc => ?_))
          | (refine Nx.zo ?_; first | refine Nx.opr rfl rfl ?_ | refine Nx.callv rfl rfl rfl (by kernel_rfl) rfl (hR _) ?_ | refine Nx.so ?_ | refine Nx.sb (fun bx => ?_) | refine Nx.sa (fun A2 c2 => ?_))
          | ((with_reducible refine Nx.is_at ?_); first | refine Nx.a ?_ | refine Nx.zd ?_ | refine Nx.zs (fun hc => ?_) (fun hc => ?_))
          | ((with_reducible refine Nx.is_mix ?_); first | refine Nx.m ?_ | refine Nx.zm ?_ | refine Nx.zt (fun hc => ?_) (fun hc => ?_))
          | refine Nx.zx ?_ | fail
        exact Nx.ret_fn rfl [] ⟨rfl, rfl⟩ (by (exact Ent.auto))
    · obtain rfl : k = m := by omega
      have hyes := (small_iff h3).2 hp
      rw [hyes, if_neg (by decide)]
      repeat' first
        | ((with_reducible refine Nx.is_wp ?_); first | refine Nx.wo ?_ | refine Nx.zp (fun hc => ?_) (fun hc => ?_))
        | (refine Nx.zo ?_; first | refine Nx.opr rfl rfl ?_ | refine Nx.so ?_ | refine Nx.sb (fun bx => ?_) | refine Nx.sa (fun A2 c2 => ?_))
        | ((with_reducible refine Nx.is_at ?_); first | refine Nx.a ?_ | refine Nx.zd ?_ | refine Nx.zs (fun hc => ?_) (fun hc => ?_))
        | ((with_reducible refine Nx.is_mix ?_); first | refine Nx.m ?_ | refine Nx.zm ?_ | refine Nx.zt (fun hc => ?_) (fun hc => ?_))
        | refine Nx.zx ?_ | fail
      exact Nx.ret_fn rfl [] ⟨rfl, rfl⟩ (by (exact Ent.auto))
set_option maxHeartbeats 8000000 in
set_option maxRecDepth 10000 in
theorem RFirst_spec (n : Int) (A : Option Addr) (c : Nat) (l : List EqR) (I : PH) (hl : Eqs I A c l) :
    FnSpec Tryz.prog 124 [.int .i64 n, .slice A l.length c] I []
      (fun v R' => ∃ (A' : Option Addr) (c' : Nat), v = .tuple #[.slice A' (firstOf n l).1.length c', .bool (firstOf n l).2.1, .int .i64 (firstOf n l).2.2] ∧ R' = [iR A' c' (firstOf n l).1]) := by
  have hC := rcheck_spec n A c l I hl
  unfold firstOf
  refine FnSpec.enterP Tryz.func124 rfl Tryz.ntmps124 rfl fun w F => ?_
  by_cases h0 : chkQ n l = 0
  case neg =>
    rw [if_neg h0]
    repeat' first
      | ((with_reducible refine Nx.is_wp ?_); first | refine Nx.wo ?_ | refine Nx.zp (fun hc => ?_) (fun hc => ?_))
      | (refine Nx.zo ?_; first | refine Nx.opr rfl rfl ?_ | refine Nx.callv rfl rfl rfl (by kernel_rfl) rfl hC ?_ | refine Nx.so ?_ | refine Nx.sb (fun bx => ?_) | refine Nx.sa (fun A2 c2 => ?_))
      | ((with_reducible refine Nx.is_at ?_); first | refine Nx.a ?_ | refine Nx.zd ?_ | refine Nx.zs (fun hc => ?_) (fun hc => ?_))
      | ((with_reducible refine Nx.is_mix ?_); first | refine Nx.m ?_ | refine Nx.zm ?_ | refine Nx.zt (fun hc => ?_) (fun hc => ?_))
      | refine Nx.zx ?_ | fail
    exact Nx.ret_fn rfl [_] ⟨none, 0, rfl, rfl⟩ ((Ent.vec_nil 3 1 _).trans (by unfold iR; (exact Ent.auto)))
  rw [if_pos h0]
  obtain ⟨h1, h2, h3, _⟩ := chk_good h0
  have hS := all_spec A c l n.toNat 1 I hl h3 (by omega) (by omega) (by omega)
  rw [show ((n.toNat : Nat) : Int) = n by omega] at hS
  rw [h0] at hC
  repeat' first
    | ((with_reducible refine Nx.is_wp ?_); first | refine Nx.p_stopr 5 rfl ?_ | refine Nx.wo ?_ | refine Nx.zp (fun hc => ?_) (fun hc => ?_))
    | (refine Nx.zo ?_; first | refine Nx.opr rfl rfl ?_ | refine Nx.callv rfl rfl rfl (by kernel_rfl) rfl hC ?_ | (refine Nx.call (Rpre := []) rfl rfl rfl (by kernel_rfl) rfl hS (Ent.refl _) ?_; rintro _ _ ⟨A1, c1, o, rfl, ho, rfl⟩) | refine Nx.so ?_ | refine Nx.sb (fun bx => ?_) | refine Nx.sa (fun A2 c2 => ?_))
    | ((with_reducible refine Nx.is_at ?_); first | refine Nx.a ?_ | refine Nx.zd ?_ | refine Nx.zs (fun hc => ?_) (fun hc => ?_))
    | ((with_reducible refine Nx.is_mix ?_); first | refine Nx.m ?_ | refine Nx.zm ?_ | refine Nx.zt (fun hc => ?_) (fun hc => ?_))
    | refine Nx.zx ?_ | fail
  refine unstopN ?_
  cases hsol : solsOf n.toNat (eqns l) with
  | nil =>
    rw [hsol] at ho
    have ho : o = [] := by simpa using ho
    subst ho
    repeat' first
      | ((with_reducible refine Nx.is_wp ?_); first | refine Nx.wo ?_ | refine Nx.zp (fun hc => ?_) (fun hc => ?_))
      | (refine Nx.zo ?_; first | refine Nx.opr rfl rfl ?_ | refine Nx.so ?_ | refine Nx.sb (fun bx => ?_) | refine Nx.sa (fun A2 c2 => ?_))
      | ((with_reducible refine Nx.is_at ?_); first | refine Nx.a ?_ | refine Nx.zd ?_ | refine Nx.zs (fun hc => ?_) (fun hc => ?_))
      | ((with_reducible refine Nx.is_mix ?_); first | refine Nx.m ?_ | refine Nx.zm ?_ | refine Nx.zt (fun hc => ?_) (fun hc => ?_))
      | refine Nx.zx ?_ | fail
    exact Nx.ret_fn rfl [_] ⟨none, 0, rfl, rfl⟩ ((Ent.vec_nil 3 1 _).trans (by unfold iR; (exact Ent.auto)))
  | cons t r =>
    rw [hsol] at ho
    match o, ho with
    | [⟨Ao, co, to⟩], ho =>
      have ho : to = t := by simpa using ho
      subst ho
      have hone : ((([(Ao, co, to)] : List Row).length : Nat) : Int) = 1 := rfl
      refine Nx.vec_fact fun _ _ _ hAs => ?_
      repeat' first
        | ((with_reducible refine Nx.is_wp ?_); first | refine Nx.wo ?_ | refine Nx.zp (fun hc => ?_) (fun hc => ?_))
        | (refine Nx.zo ?_; first | refine Nx.opr rfl rfl ?_ | refine Nx.indexAddr_nat (i := 0) rfl rfl rfl rfl rfl (Nat.zero_lt_succ _) (hAs (Nat.zero_lt_succ _)) ?_ | refine Nx.load rfl rfl rfl (Rd.vecEl (f := rowV) (l := [(Ao, co, to)]) (i := 0) 0 rfl (Nat.zero_lt_succ _)) ?_ | refine Nx.so ?_ | refine Nx.sb (fun bx => ?_) | refine Nx.sa (fun A2 c2 => ?_))
        | ((with_reducible refine Nx.is_at ?_); first | refine Nx.a ?_ | refine Nx.zd ?_ | refine Nx.zs (fun hc => ?_) (fun hc => ?_))
        | ((with_reducible refine Nx.is_mix ?_); first | refine Nx.m ?_ | refine Nx.zm ?_ | refine Nx.zt (fun hc => ?_) (fun hc => ?_))
        | refine Nx.zx ?_ | fail
      refine Nx.unfoldAt 1 (B := [rwR (Ao, co, to)]) rfl ?_
      exact Nx.ret_fn rfl [rwR (Ao, co, to)] ⟨Ao, co, rfl, rfl⟩ (by (exact Ent.auto))
/-- All solutions are among the first 65536. -/
theorem sols_few {n : Nat} {l : List EqR} (hg : ∀ q ∈ l, GoodE n q) (hs : smallB n (eqns l) = true) : (solsOf n (eqns l)).take 65536 = solsOf n (eqns l) := by
  have h1 := rs_count (n := n) (eqns l)
  have h2 := (small_iff hg).1 hs
  rw [rs_sols hg] at h1
  exact List.take_of_length_le (by omega)
end Go.Proofs.YtcmdemfhbekabaaGreat
/- Contracts of functions of the given program, and lemmas about plain lists and numbers: what the laws of this seat lean on. -/
namespace Go.Proofs.YtcmdemfhbekabaaGreat
open Go.Eng Go.Sol
attribute [local irreducible] opK wpList Code.wp Exit.then Exit.inBlock fnPost bodyPost Nx Calls Oper.wp Rd Rds Wr Ent Stars Blk Again Vec FnSpec wpMix QRun Stop Upto wpAt
/-! The reference's reaches -/
theorem rows_of {A : Option Addr} {c : Nat} {o : List Row} {m I' : PH} (hm : PH.le m I') (h : Stars [Vec 25 1 A o.length c (o.map rowV), Stars (o.map rwR)] m) : RowsOf I' A c o := by
  obtain ⟨m1, h1le, h1⟩ := Stars.get 0 h rfl
  obtain ⟨m2, h2le, h2⟩ := Stars.get 1 h rfl
  refine ⟨Vec.sliceOf (h1le.trans hm) h1, fun r hr => ?_⟩
  obtain ⟨k, hk, he⟩ := List.mem_iff_getElem.1 hr
  obtain ⟨m3, h3le, h3⟩ := Stars.get k (r := rwR r) h2 (by rw [nthL_eq, List.getElem?_map, List.getElem?_eq_getElem hk, he]; rfl)
  exact Vec.sliceOf ((h3le.trans h2le).trans hm) h3
theorem map_at {o : List Row} {S : List (List Int)} (h : o.map (·.2.2) = S) {j : Nat} (hj : j < o.length) : (o.getD j default).2.2 = S.getD j default := by
  rw [← h, List.getD_eq_getElem?_getD, List.getD_eq_getElem?_getD, List.getElem?_map, List.getElem?_eq_getElem hj]; rfl
theorem getD_in {α : Type} [Inhabited α] {l : List α} {k : Nat} (h : k < l.length) : l.getD k default ∈ l := by
  rw [List.getD_eq_getElem?_getD, List.getElem?_eq_getElem h]; exact List.getElem_mem _
end Go.Proofs.YtcmdemfhbekabaaGreat
/- Contracts of functions of the given program, and lemmas about plain lists and numbers: what the laws of this seat lean on. -/
namespace Go.Proofs.YtcmdemfhbekabaaGreat
open Go.Eng Go.Sol
attribute [local irreducible] opK wpList Code.wp Exit.then Exit.inBlock fnPost bodyPost Nx Calls Oper.wp Rd Rds Wr Ent Stars Blk Again Vec FnSpec wpMix QRun Stop Upto wpAt
/-! Reaches compared -/
/-! Lists of tables compared -/
set_option maxRecDepth 10000 in
set_option maxHeartbeats 4000000 in
theorem SameT_spec (A B : Option Addr) (cp cq : Nat) (l r : List Row) (I : PH) (hl : RowsOf I A cp l) (hr : RowsOf I B cq r) :
    FnSpec Tryz.prog 39 [.slice A l.length cp, .slice B r.length cq] I [] (fun v R' => v = .bool (decide (l.map (·.2.2) = r.map (·.2.2))) ∧ R' = []) := by
  refine FnSpec.enterP Tryz.func39 rfl Tryz.ntmps39 rfl fun w F => ?_
  have h1 := hl.outer.len
  have h2 := hr.outer.len
  repeat' first
    | ((with_reducible refine Nx.is_wp ?_); first | refine Nx.wo ?_ | refine Nx.zp (fun hc => ?_) (fun hc => ?_))
    | (refine Nx.zo ?_; first | refine Nx.opr rfl rfl ?_ | refine Nx.so ?_ | refine Nx.sb (fun bx => ?_) | refine Nx.sa (fun A2 c2 => ?_))
    | ((with_reducible refine Nx.is_at ?_); first | refine Nx.a ?_ | refine Nx.zd ?_ | refine Nx.zs (fun hc => ?_) (fun hc => ?_))
    | ((with_reducible refine Nx.is_mix ?_); first | refine Nx.m ?_ | refine Nx.zm ?_ | refine Nx.zt (fun hc => ?_) (fun hc => ?_))
    | refine Nx.zx ?_ | fail
  · exact Nx.ret_fn rfl [] ⟨by rw [decide_eq_false]; intro h; have := congrArg List.length h; simp only [List.length_map] at this; omega, rfl⟩ (Ent.refl _)
  have hlen : l.length = r.length := by omega
  refine Nx.p_loop (σ := Nat) (fun k => [(0, .slice A l.length cp), (1, .slice B r.length cq), (12, .int .i64 l.length), (13, .int .i64 (k : Int))])
    (fun _ => [F]) (fun k => k ≤ l.length ∧ (l.map (·.2.2)).take k = (r.map (·.2.2)).take k) (fun k => l.length - k) 0 rfl ⟨Nat.zero_le _, by simp⟩ ⟨rfl, rfl, rfl, rfl, trivial⟩ (Ent.refl _) ?_
  rintro k ⟨hk, hsame⟩
  by_cases hlt : k < l.length
  case neg =>
    obtain rfl : k = l.length := by omega
    rw [List.take_of_length_le (by simp), List.take_of_length_le (by simp [hlen])] at hsame
    repeat' first
      | ((with_reducible refine Nx.is_wp ?_); first | refine Nx.wo ?_ | refine Nx.zp (fun hc => ?_) (fun hc => ?_))
      | (refine Nx.zo ?_; first | refine Nx.opr rfl rfl ?_ | refine Nx.so ?_ | refine Nx.sb (fun bx => ?_) | refine Nx.sa (fun A2 c2 => ?_))
      | ((with_reducible refine Nx.is_at ?_); first | refine Nx.a ?_ | refine Nx.zd ?_ | refine Nx.zs (fun hc => ?_) (fun hc => ?_))
      | ((with_reducible refine Nx.is_mix ?_); first | refine Nx.m ?_ | refine Nx.zm ?_ | refine Nx.zt (fun hc => ?_) (fun hc => ?_))
      | refine Nx.zx ?_ | fail
    exact Nx.ret_fn rfl [] ⟨by rw [decide_eq_true hsame], rfl⟩ (Ent.refl _)
  have hI := Ints_spec _ _ _ _ _ _ I (hl.at hlt) (hr.at (k := k) (by omega))
  have ra := fun (W : World) (R : List Res) => hl.outer.rd (W := W) (R := R) hlt
  have rb := fun (W : World) (R : List Res) => hr.outer.rd (W := W) (R := R) (k := k) (by omega)
  have ea := map_at (o := l) rfl hlt
  have eb := map_at (o := r) rfl (show k < r.length by omega)
  by_cases he : (l.getD k default).2.2 = (r.getD k default).2.2
  · rw [decide_eq_true he] at hI
    repeat' first
      | ((with_reducible refine Nx.is_wp ?_); first | refine Nx.wo ?_ | refine Nx.p_draw (id := 6) rfl [0, 1, 2, 3, 4, 5, 6, 7, 8, 9] [8] _ rfl rfl (by kernel_rfl) (by kernel_rfl) rfl (by repeat first | exact PanicOk.fn | refine PanicOk.then_ ?_ | refine PanicOk.inB ?_) (Ent.refl _) ?_ | refine Nx.zp (fun hc => ?_) (fun hc => ?_))
      | (refine Nx.zo ?_; first | refine Nx.opr rfl rfl ?_ | refine Nx.callv rfl rfl rfl (by kernel_rfl) rfl hI ?_ | refine Nx.so ?_ | refine Nx.sb (fun bx => ?_) | refine Nx.sa (fun A2 c2 => ?_))
      | ((with_reducible refine Nx.is_at ?_); first | refine Nx.a ?_ | refine Nx.zd ?_ | refine Nx.zs (fun hc => ?_) (fun hc => ?_))
      | ((with_reducible refine Nx.is_mix ?_); first | refine Nx.m_quiet rfl rfl rfl rfl rfl (by first | exact QRun.opr rfl | exact QRun.idx rfl rfl rfl rfl (by omega) (hl.outer.isSome (by omega)) | exact QRun.idx rfl rfl rfl rfl (by omega) (hr.outer.isSome (by omega)) | exact QRun.load rfl rfl (ra _ _) | exact QRun.load rfl rfl (rb _ _)) ?_ | refine Nx.m_quiet_do rfl rfl rfl rfl rfl rfl rfl (by first | exact QRun.opr rfl | exact QRun.idx rfl rfl rfl rfl (by omega) (hl.outer.isSome (by omega)) | exact QRun.idx rfl rfl rfl rfl (by omega) (hr.outer.isSome (by omega)) | exact QRun.load rfl rfl (ra _ _) | exact QRun.load rfl rfl (rb _ _)) ?_ | refine Nx.m ?_ | refine Nx.zm ?_ | refine Nx.zt (fun hc => ?_) (fun hc => ?_))
      | refine Nx.zx ?_ | fail
    refine Nx.again (k + 1) ⟨by omega, ?_⟩ (by omega) ⟨rfl, rfl, rfl, rfl, trivial⟩ (Ent.refl _)
    rw [ea, eb] at he
    rw [List.take_succ_eq_append_getElem (by simp; omega), List.take_succ_eq_append_getElem (by simp; omega), hsame]
    rw [List.getD_eq_getElem?_getD, List.getD_eq_getElem?_getD, List.getElem?_eq_getElem (by simp; omega), List.getElem?_eq_getElem (by simp; omega)] at he
    rw [show (l.map (·.2.2))[k]'(by simp; omega) = (r.map (·.2.2))[k]'(by simp; omega) from he]
  · rw [decide_eq_false he] at hI
    repeat' first
      | ((with_reducible refine Nx.is_wp ?_); first | refine Nx.wo ?_ | refine Nx.p_draw (id := 6) rfl [0, 1, 2, 3, 4, 5, 6, 7, 8, 9] [8] _ rfl rfl (by kernel_rfl) (by kernel_rfl) rfl (by repeat first | exact PanicOk.fn | refine PanicOk.then_ ?_ | refine PanicOk.inB ?_) (Ent.refl _) ?_ | refine Nx.zp (fun hc => ?_) (fun hc => ?_))
      | (refine Nx.zo ?_; first | refine Nx.opr rfl rfl ?_ | refine Nx.callv rfl rfl rfl (by kernel_rfl) rfl hI ?_ | refine Nx.so ?_ | refine Nx.sb (fun bx => ?_) | refine Nx.sa (fun A2 c2 => ?_))
      | ((with_reducible refine Nx.is_at ?_); first | refine Nx.a ?_ | refine Nx.zd ?_ | refine Nx.zs (fun hc => ?_) (fun hc => ?_))
      | ((with_reducible refine Nx.is_mix ?_); first | refine Nx.m_quiet rfl rfl rfl rfl rfl (by first | exact QRun.opr rfl | exact QRun.idx rfl rfl rfl rfl (by omega) (hl.outer.isSome (by omega)) | exact QRun.idx rfl rfl rfl rfl (by omega) (hr.outer.isSome (by omega)) | exact QRun.load rfl rfl (ra _ _) | exact QRun.load rfl rfl (rb _ _)) ?_ | refine Nx.m_quiet_do rfl rfl rfl rfl rfl rfl rfl (by first | exact QRun.opr rfl | exact QRun.idx rfl rfl rfl rfl (by omega) (hl.outer.isSome (by omega)) | exact QRun.idx rfl rfl rfl rfl (by omega) (hr.outer.isSome (by omega)) | exact QRun.load rfl rfl (ra _ _) | exact QRun.load rfl rfl (rb _ _)) ?_ | refine Nx.m ?_ | refine Nx.zm ?_ | refine Nx.zt (fun hc => ?_) (fun hc => ?_))
      | refine Nx.zx ?_ | fail
    refine Nx.ret_fn rfl [] ⟨by rw [decide_eq_false]; intro h; rw [ea, eb, h] at he; exact he rfl, rfl⟩ (Ent.refl _)
/-! Whether equations are searched quickly -/
end Go.Proofs.YtcmdemfhbekabaaGreat
/- Contracts of functions of the given program, and lemmas about plain lists and numbers: what the laws of this seat lean on. -/
namespace Go.Proofs.YtcmdemfhbekabaaGreat
open Go.Eng Go.Sol
attribute [local irreducible] opK wpList Code.wp Exit.then Exit.inBlock fnPost bodyPost Nx Calls Oper.wp Rd Rds Wr Ent Stars Blk Again Vec FnSpec wpMix QRun Stop Upto wpAt
/-! Plain: made equations and their solutions -/
theorem asc_room : ∀ {xs : List Int} {a b : Int}, xs.Pairwise (· < ·) → (∀ x ∈ xs, a ≤ x ∧ x < b) → (xs.length : Int) ≤ max 0 (b - a)
  | [], a, b, _, _ => by simp; omega
  | x :: r, a, b, h, hb => by
    rw [List.pairwise_cons] at h
    have hx := hb x List.mem_cons_self
    have ih := asc_room (a := x + 1) (b := b) h.2 fun y hy => by have := h.1 y hy; have := hb y (List.mem_cons_of_mem _ hy); omega
    rw [List.length_cons]
    omega
theorem good_len {n : Nat} {q : EqR} (hg : GoodE n q) : q.1.2.2.length ≤ n := by
  have := asc_room hg.asc hg.lt
  omega
theorem allC_good {n : Nat} : ∀ {l : List EqR}, (∀ q ∈ l, GoodE n q) → (allC l).length ≤ l.length * n
  | [], _ => by simp [allC]
  | q :: l, hg => by
    have ih := allC_good (l := l) fun p hp => hg p (List.mem_cons_of_mem _ hp)
    have h1 := good_len (hg q List.mem_cons_self)
    show (q.1.2.2 ++ allC l).length ≤ _
    rw [List.length_append, List.length_cons, Nat.succ_mul]
    omega
theorem EqsOk.all {N : Nat} {t : List Int} {most : Int} {qs : List EqR} (h : EqsOk N t most qs) : (allC qs).length ≤ 384 := by
  have h1 := allC_good h.good
  have h2 := h.few
  have h3 := h.n
  exact Nat.le_trans h1 (Nat.mul_le_mul h2 h3.2)
/-- The table, 0 where no equation is. -/
def wantL (N : Nat) (U : List Nat) (t : List Int) : List Int := (List.range N).map fun c => if c ∈ U then t.getD c 0 else 0
theorem wantL_len (N : Nat) (U : List Nat) (t : List Int) : (wantL N U t).length = N := by simp [wantL]
theorem wantL_at {N : Nat} {U : List Nat} {t : List Int} {c : Nat} (hc : c < N) : (wantL N U t).getD c 0 = if c ∈ U then t.getD c 0 else 0 := by
  unfold wantL
  rw [List.getD_eq_getElem?_getD, List.getElem?_map, List.getElem?_range hc]; rfl
theorem wantL_out {N : Nat} {U : List Nat} {t : List Int} {c : Nat} (hc : ¬ c < N) : (wantL N U t).getD c 0 = 0 := getD_ge (by rw [wantL_len]; omega)
/-- Values of a table that agrees with all equations, 0 elsewhere: a solution. -/
theorem want_sol {N : Nat} {l : List EqR} {t : List Int} (hg : ∀ q ∈ l, GoodE N q) (hp : ∀ c ∈ touch N (eqns l), 0 ≤ t.getD c 0 ∧ t.getD c 0 ≤ 1000000) (hs : ∀ q ∈ l, sumC t (eqn q).1 = q.2) : wantL N (touch N (eqns l)) t ∈ solsOf N (eqns l) := by
  have hat : ∀ c ∈ touch N (eqns l), (wantL N (touch N (eqns l)) t).getD c 0 = t.getD c 0 := fun c hc => by
    rw [wantL_at (mem_touch.1 hc).1, if_pos hc]
  refine (mem_sols hg).2 ⟨wantL_len _ _ _, fun c hc => ?_, fun c hc => by rw [hat c hc]; exact hp c hc, fun q hq => ?_⟩
  · rw [zeros_at]
    by_cases hN : c < N
    · rw [wantL_at hN, if_neg hc]
    · exact wantL_out hN
  · obtain ⟨p, hpl, rfl⟩ := List.mem_map.1 hq
    rw [← show sumC t (eqn p).1 = (eqn p).2 from hs p hpl]
    refine sumC_congr fun c hc => hat c (mem_touch.2 ⟨?_, eqn p, hq, hc⟩)
    have := (hg p hpl).lt (c : Int) ((mem_eqn (hg p hpl)).1 hc)
    omega
theorem EqsOk.pos {N : Nat} {t : List Int} {qs : List EqR} (h : EqsOk N t 2 qs) (c : Nat) : 0 ≤ t.getD c 0 ∧ t.getD c 0 ≤ 1000000 := by
  by_cases hc : c < t.length
  · have := h.tab c hc
    exact ⟨this.1, by have := this.2; show t.getD c default ≤ _; omega⟩
  · rw [getD_ge (by omega)]; decide
theorem EqsOk.want {N : Nat} {t : List Int} {qs : List EqR} (h : EqsOk N t 2 qs) : wantL N (touch N (eqns qs)) t ∈ solsOf N (eqns qs) := want_sol h.good (fun c _ => h.pos c) h.sum
theorem EqsOk.some {N : Nat} {t : List Int} {qs : List EqR} (h : EqsOk N t 2 qs) : solsOf N (eqns qs) ≠ [] := fun he => by
  have := h.want; rw [he] at this; cases this
theorem sols_sum {N : Nat} {l : List EqR} (hg : ∀ q ∈ l, GoodE N q) {s : List Int} (hs : s ∈ solsOf N (eqns l)) : ∀ q ∈ l, sumC s (eqn q).1 = q.2 := fun q hq => ((mem_sols hg).1 hs).sum (eqn q) (List.mem_map.2 ⟨q, hq, rfl⟩)
/-! Made equations are given up -/
theorem eqs_of {A : Option Addr} {c : Nat} {qs : List EqR} {m m1 m2 I' : PH} (hm : PH.le m I') (h1 : Vec 93 2 A qs.length c (qs.flatMap eqC) m1) (hm1 : PH.le m1 m) (h2 : Stars (qs.map fun q => rowR q.1) m2) (hm2 : PH.le m2 m) : Eqs I' A c qs := by
  refine ⟨Vec.sliceN (hm1.trans hm) h1 fun x _ => eqC_len x, fun q hq => ?_⟩
  obtain ⟨k, hk, he⟩ := List.mem_iff_getElem.1 hq
  obtain ⟨m3, h3le, h3⟩ := Stars.get k (r := rowR q.1) h2 (by rw [nthL_eq, List.getElem?_map, List.getElem?_eq_getElem hk, he]; rfl)
  exact Vec.sliceOf ((h3le.trans hm2).trans hm) h3
theorem Nx.giveRows {C : Cx} {e : Env} {I : PH} {R : List Res} {K : Act → World → Prop} {A : Option Addr} {c : Nat} {o : List Row} {RR : List Res}
    (hR : Ent R (Stars (rowsR A c o) :: RR)) (h : ∀ I', PH.le I I' → RowsOf I' A c o → Nx C e I' RR K) : Nx C e I R K := by
  refine Nx.ent hR ?_
  refine Nx.freezeAt 0 rfl fun I1 m1 hI1 hm1 h1 => ?_
  exact h I1 hI1 (rows_of hm1 h1)
end Go.Proofs.YtcmdemfhbekabaaGreat
/-
  The proof engine, part AW: walks over owned maps ('for k, v := range m' while nothing is laid into m).
-/
namespace Go.Eng
open Go.Instr Go.ChangeMaps
/-- Each entry was born before now, no two at one time. -/
def Stamped (es : Array MapEntry) (clock : Nat) : Prop := (∀ x ∈ es.toList, x.born < clock) ∧ (es.toList.map (·.born)).Nodup
section
variable {κ α : Type} {g : κ → Value} {f : α → Value}
theorem stamped_nil : Stamped #[] 0 := ⟨fun x hx => by simp at hx, by simp⟩
theorem stamped_push {es : Array MapEntry} {clock : Nat} (h : Stamped es clock) (k v : Value) : Stamped (es.push ⟨k, v, clock⟩) (clock + 1) := by
  obtain ⟨h1, h2⟩ := h
  refine ⟨fun x hx => ?_, ?_⟩
  · rw [Array.toList_push, List.mem_append, List.mem_singleton] at hx
    rcases hx with hx | rfl
    · have := h1 x hx; omega
    · exact Nat.lt_succ_self _
  · rw [Array.toList_push, List.map_append, List.nodup_append]
    refine ⟨h2, by simp, fun a ha b hb => ?_⟩
    obtain ⟨x, hx, rfl⟩ := List.mem_map.1 ha
    simp only [List.map_cons, List.map_nil, List.mem_singleton] at hb
    have := h1 x hx
    omega
theorem map_modify {es : List MapEntry} {j : Nat} {k v : Value} : ((es.modify j fun e => { e with key := k, val := v }).map (·.born)) = es.map (·.born) := by
  induction es generalizing j with
  | nil => simp
  | cons x es ih =>
    cases j with
    | zero => simp
    | succ j => simp only [List.modify_succ_cons, List.map_cons, ih]
theorem stamped_modify {es : Array MapEntry} {clock : Nat} (h : Stamped es clock) (j : Nat) (k v : Value) : Stamped (es.modify j fun e => { e with key := k, val := v }) clock := by
  obtain ⟨h1, h2⟩ := h
  have hm : (es.modify j fun e => { e with key := k, val := v }).toList.map (·.born) = es.toList.map (·.born) := by rw [Array.toList_modify, map_modify]
  refine ⟨fun x hx => ?_, by rw [hm]; exact h2⟩
  have : x.born ∈ (es.modify j fun e => { e with key := k, val := v }).toList.map (·.born) := List.mem_map.2 ⟨x, hx, rfl⟩
  rw [hm] at this
  obtain ⟨y, hy, he⟩ := List.mem_map.1 this
  rw [← he]
  exact h1 y hy
/-- A map that is owned, its entries stamped. -/
def MapS (g : κ → Value) (f : α → Value) (b : Nat) (l : List (κ × α)) : Res := fun m => ∃ es clock, m b = some (.map es clock) ∧ entOk g f es.toList l ∧ Stamped es clock
/-- A walk over an owned map: 'left' is what is still to come, in any order. -/
def IterR (g : κ → Value) (f : α → Value) (b r : Nat) (l left : List (κ × α)) : Res := fun m => ∃ es clock, ∃ seen : Array Nat, ∃ c0, ∃ L : List MapEntry, m b = some (.map es clock) ∧ m r = some (.mapIter (some b) clock seen c0) ∧ entOk g f es.toList l ∧ Stamped es clock ∧ clock ≤ c0 ∧ L.Perm (leftOf es seen).toList ∧ entOk g f L left
/-- The same behind a step that came to p. -/
def IterAt (g : κ → Value) (f : α → Value) (b r : Nat) (l rest : List (κ × α)) (p : κ × α) : Res := fun m => ∃ es clock, ∃ seen : Array Nat, ∃ e : MapEntry, ∃ L : List MapEntry, m b = some (.map es clock) ∧ m r = some (.mapIter (some b) clock (seen.push e.born) clock) ∧ entOk g f es.toList l ∧ Stamped es clock ∧ e ∈ es.toList ∧ e.key = g p.1 ∧ e.val = f p.2 ∧ L.Perm (leftOf es (seen.push e.born)).toList ∧ entOk g f L rest
theorem Ent.iterAt {b r : Nat} {l rest : List (κ × α)} {p : κ × α} {R : List Res} : Ent (IterAt g f b r l rest p :: R) (IterR g f b r l rest :: R) :=
  Ent.head fun _ ⟨es, clock, seen, e, L, h1, h2, h3, h4, _, _, _, h5, h6⟩ => ⟨es, clock, seen.push e.born, clock, L, h1, h2, h3, h4, Nat.le_refl _, h5, h6⟩
theorem entOk_split : ∀ {L1 : List MapEntry} {e : MapEntry} {L2 : List MapEntry} {left : List (κ × α)}, entOk g f (L1 ++ e :: L2) left → ∃ a p c, left = a ++ p :: c ∧ e.key = g p.1 ∧ e.val = f p.2 ∧ entOk g f (L1 ++ L2) (a ++ c)
  | [], e, L2, [], h => by simp [entOk] at h
  | [], e, L2, p :: c, h => by
    simp only [entOk, List.nil_append, List.map_cons, List.cons.injEq, Prod.mk.injEq] at h
    exact ⟨[], p, c, rfl, h.1.1, h.1.2, h.2⟩
  | x :: L1, e, L2, [], h => by simp [entOk] at h
  | x :: L1, e, L2, q :: left, h => by
    simp only [entOk, List.cons_append, List.map_cons, List.cons.injEq] at h
    obtain ⟨a, p, c, rfl, h1, h2, h3⟩ := entOk_split h.2
    refine ⟨q :: a, p, c, rfl, h1, h2, ?_⟩
    simp only [entOk, List.cons_append, List.map_cons, List.cons.injEq]
    exact ⟨h.1, h3⟩
theorem leftOf_nil (es : Array MapEntry) : leftOf es #[] = es := by
  unfold leftOf
  exact Array.filter_eq_self.2 fun _ _ => by simp
theorem left_push (es : Array MapEntry) (seen : Array Nat) (b : Nat) : (leftOf es (seen.push b)).toList = (leftOf es seen).toList.filter fun e => !(e.born == b) := by
  unfold leftOf
  rw [Array.toList_filter, Array.toList_filter, List.filter_filter]
  congr 1
  funext e
  rw [contains_push]
  cases seen.contains e.born <;> cases (e.born == b) <;> rfl
theorem filter_out {L1 : List MapEntry} {e : MapEntry} {L2 : List MapEntry} (h : ((L1 ++ e :: L2).map (·.born)).Nodup) : (L1 ++ e :: L2).filter (fun x => !(x.born == e.born)) = L1 ++ L2 := by
  rw [List.map_append, List.map_cons, List.nodup_append, List.nodup_cons] at h
  obtain ⟨_, ⟨h1, _⟩, h2⟩ := h
  rw [List.filter_append, List.filter_cons]
  have ha : L1.filter (fun x => !(x.born == e.born)) = L1 := List.filter_eq_self.2 fun x hx => by
    have := h2 x.born (List.mem_map.2 ⟨x, hx, rfl⟩) e.born (by simp)
    simp [this]
  have hc : L2.filter (fun x => !(x.born == e.born)) = L2 := List.filter_eq_self.2 fun x hx => by
    have : x.born ≠ e.born := fun he => h1 (he ▸ List.mem_map.2 ⟨x, hx, rfl⟩)
    simp [this]
  rw [ha, hc]
  simp
end
section
variable {C : Cx} {e e' : Env} {I : PH} {R R' R0 : List Res} {K K' : Act → World → Prop} {Q : Exit → Act → World → Prop} {W : World}
variable {d : Nat} {ty t : TypeId} {pos : String} {after : Array Edge} {gd : Option (Nat × Bool)} {x y z : Operand} {dst : Option Tmp}
variable {κ α : Type}
theorem Nx.makeMapS (g : κ → Value) (f : α → Value) (hlt : Nat.blt d C.n = true)
    (h : ∀ b, Nx C ((d, .map (some b)) :: e) I (MapS g f b [] :: R) K) : Nx C e I R (opK C.P ⟨some d, .makeMap t none, ty, pos, after, gd⟩ K Q) :=
  Nx.op_new (v := fun b => .map (some b)) (ob := .map #[] 0) rfl hlt (fun a w ha hw => by
    simp only [execOp, Option.map_none]
    exact run_v rfl) (fun b => (h b).ent (Ent.head fun m hm => ⟨#[], 0, hm, rfl, stamped_nil⟩))
theorem Nx.mapRange (i : Nat) (g : κ → Value) (f : α → Value) {kt et : TypeId} {b : Nat} {l : List (κ × α)} (hx : evo e x = some (.map (some b))) (ht : C.P.underlying t = some (.map kt et)) (hlt : Nat.blt d C.n = true) (hk : nthL R i = some (MapS g f b l))
    (h : ∀ r, Nx C ((d, .pointer (some ⟨r, 0, none⟩)) :: e) I (IterR g f b r l l :: R.eraseIdx i) K) : Nx C e I R (opK C.P ⟨some d, .range t x, ty, pos, after, gd⟩ K Q) := by
  refine Nx.ent (Ent.pull i R _ (nthL_eq.symm.trans hk)) ?_
  intro a w ha hw
  obtain ⟨⟨m, ⟨m1, m2, hd, rfl, ⟨es, clock, hb, he, hs1⟩, h2⟩, hs⟩, hst⟩ := hw
  have hw0 : St C.W I ((fun m => m b = some (.map es clock)) :: R.eraseIdx i) w := ⟨⟨_, ⟨m1, m2, hd, rfl, hb, h2⟩, hs⟩, hst⟩
  have hbw : w.heap[b]? = some (.map es clock) := hs.own _ _ (PH.le_or_left _ _ _ _ hb)
  have hrun : (execOp a.eval ⟨some d, .range t x, ty, pos, after, gd⟩).run C.P w = .ok (.value (.pointer (some ⟨w.heap.size, 0, none⟩))) (w.alloc (.mapIter (some b) clock #[] clock)) := by
    simp only [execOp, ha.eval hx]
    exact run_v (run_range_map w t kt et b es clock ht hbw)
  unfold opK Oper.wp
  rw [hrun]
  refine h w.heap.size _ _ (ha.put hlt _) ((hw0.alloc (.mapIter (some b) clock #[] clock)).ent ?_)
  rintro m ⟨n1, n', hd1, rfl, hn1, n2, n3, hd2, rfl, hn2, hn3⟩
  obtain ⟨hd12, hd13⟩ := PH.dis_or.1 hd1
  refine ⟨_, PH.le_refl _, n1.or n2, n3, ?_, (PH.or_assoc _ _ _).symm, ?_, hn3⟩
  · exact (PH.dis_or.2 ⟨hd13.symm, hd2.symm⟩).symm
  · refine ⟨es, clock, #[], clock, es.toList, PH.le_or_right hd12 _ _ hn2, PH.le_or_left _ _ _ _ hn1, he, hs1, Nat.le_refl _, ?_, he⟩
    rw [leftOf_nil]
theorem Nx.mapNext (i : Nat) {g : κ → Value} {f : α → Value} {b r : Nat} {l left : List (κ × α)} (hx : evo e x = some (.pointer (some ⟨r, 0, none⟩))) (hlt : Nat.blt d C.n = true) (hk : nthL R i = some (IterR g f b r l left))
    (h0 : left = [] → Nx C ((d, .tuple #[.bool false]) :: e) I R K)
    (h1 : ∀ a p c, left = a ++ p :: c → Nx C ((d, .tuple #[.bool true, g p.1, f p.2]) :: e) I (IterAt g f b r l (a ++ c) p :: R.eraseIdx i) K) : Nx C e I R (opK C.P ⟨some d, .next x false, ty, pos, after, gd⟩ K Q) := by
  intro a w ha hw
  have hwe := hw.ent (Ent.pull i R _ (nthL_eq.symm.trans hk))
  obtain ⟨⟨m, ⟨m1, m2, hd, rfl, ⟨es, clock, seen, c0, L, hb, hr, he, hs1, hc0, hp, hL⟩, h2⟩, hs⟩, hst⟩ := hwe
  have hw0 : St C.W I ((fun m => m b = some (.map es clock) ∧ m r = some (.mapIter (some b) clock seen c0)) :: R.eraseIdx i) w := ⟨⟨_, ⟨m1, m2, hd, rfl, ⟨hb, hr⟩, h2⟩, hs⟩, hst⟩
  have hbw : w.heap[b]? = some (.map es clock) := hs.own _ _ (PH.le_or_left _ _ _ _ hb)
  have hrw : w.heap[r]? = some (.mapIter (some b) clock seen c0) := hs.own _ _ (PH.le_or_left _ _ _ _ hr)
  have hne : r ≠ b := fun h => by rw [h, hbw] at hrw; cases hrw
  rcases run_next_at (P := C.P) w ty r b clock c0 seen es clock hrw hbw hs1.1 hc0 with ⟨hz, hrun⟩ | ⟨en, hen, w1, hal, hrun⟩
  · have hLn : L = [] := List.eq_nil_of_length_eq_zero (by rw [hp.length_eq, Array.length_toList]; exact hz)
    have hln : left = [] := by
      rw [hLn] at hL
      cases left with
      | nil => rfl
      | cons q c => simp [entOk] at hL
    have hrun' : (execOp a.eval ⟨some d, .next x false, ty, pos, after, gd⟩).run C.P w = .ok (.value (.tuple #[.bool false])) w := by
      simp only [execOp, ha.eval hx]
      exact run_v hrun
    unfold opK Oper.wp
    rw [hrun']
    exact h0 hln _ _ (ha.put hlt _) hw
  · have hem := hp.mem_iff.2 hen
    obtain ⟨L1, L2, rfl⟩ := List.append_of_mem hem
    obtain ⟨pa, pp, pc, hleft, hk1, hk2, hk3⟩ := entOk_split hL
    have hnd : ((L1 ++ en :: L2).map (·.born)).Nodup := by
      refine (hp.map (·.born)).nodup_iff.2 ?_
      unfold leftOf
      rw [Array.toList_filter]
      exact hs1.2.sublist (List.filter_sublist.map _)
    have hperm : (L1 ++ L2).Perm (leftOf es (seen.push en.born)).toList := by
      rw [left_push, ← filter_out hnd]
      exact hp.filter _
    have hrun' : (execOp a.eval ⟨some d, .next x false, ty, pos, after, gd⟩).run C.P w = .ok (.value (.tuple #[.bool true, g pp.1, f pp.2])) (setBlock w1 r (.mapIter (some b) clock (seen.push en.born) clock)) := by
      simp only [execOp, ha.eval hx]
      rw [hk1, hk2] at hrun
      exact run_v hrun
    unfold opK Oper.wp
    rw [hrun']
    have hr1 : w1.heap[r]? = some (.mapIter (some b) clock seen c0) := by rcases hal with rfl | rfl <;> exact hrw
    have hset := MapKept.heap_set (o' := .mapIter (some b) clock (seen.push en.born) clock) hr1
    have hheap : w1.heap = w.heap := by rcases hal with rfl | rfl <;> rfl
    refine h1 pa pp pc hleft _ _ (ha.put hlt _) (hw0.upd (o := .mapIter (some b) clock (seen.push en.born) clock) (b := r) (fun m hm => ?_) hset.1 (fun j hj o' ho => ?_) ?_)
    · obtain ⟨hmb, hmr⟩ := hm
      refine ⟨by rw [hmr]; rfl, es, clock, seen, en, L1 ++ L2, ?_, if_pos rfl, he, hs1, (mem_left hen).1, hk1, hk2, hperm, hk3⟩
      exact (if_neg (fun h : b = r => hne h.symm)).trans hmb
    · exact (hset.2 j hj).trans (by rw [hheap]; exact ho)
    · rcases hal with rfl | rfl
      · exact ⟨rfl, rfl, rfl, by simp [setBlock], Nat.le_refl _⟩
      · exact ⟨rfl, rfl, rfl, by simp [setBlock], Nat.le_succ _⟩
theorem Nx.mapEntry (i : Nat) {g : κ → Value} {f : α → Value} {b r : Nat} {l rest : List (κ × α)} {p : κ × α} (hx : evo e x = some (.pointer (some ⟨r, 0, none⟩))) (hlt : Nat.blt d C.n = true) (hk : nthL R i = some (IterAt g f b r l rest p))
    (h : Nx C ((d, .tuple #[g p.1, f p.2]) :: e) I R K) : Nx C e I R (opK C.P ⟨some d, .entry x, ty, pos, after, gd⟩ K Q) :=
  Nx.op_run rfl hlt (fun a w ha hw => by
    obtain ⟨⟨m, ⟨m1, m2, hd, rfl, ⟨es, clock, seen, en, L, hb, hr, he, hs1, hen, hk1, hk2, _, _⟩, h2⟩, hs⟩, hst⟩ := hw.ent (Ent.pull i R _ (nthL_eq.symm.trans hk))
    have hbw : w.heap[b]? = some (.map es clock) := hs.own _ _ (PH.le_or_left _ _ _ _ hb)
    have hrw : w.heap[r]? = some (.mapIter (some b) clock (seen.push en.born) clock) := hs.own _ _ (PH.le_or_left _ _ _ _ hr)
    simp only [execOp, ha.eval hx]
    rw [← hk1, ← hk2]
    exact run_v (run_entry_at w r b clock seen es clock en hrw hbw hen hs1.2)) h
variable [DecidableEq κ]
theorem findI_key {g : κ → Value} {f : α → Value} {k : κ} {j : Nat} {v0 : α} : ∀ {es : List MapEntry} {l : List (κ × α)} {i : Nat}, entOk g f es l → mfindI l k i = some (j, v0) → i ≤ j ∧ (es[j - i]?).map (·.key) = some (g k)
  | [], [], i, _, h2 => by simp [mfindI] at h2
  | [], _ :: _, i, h1, _ => by simp [entOk] at h1
  | e :: es, [], i, h1, _ => by simp [entOk] at h1
  | e :: es, (q, u) :: l, i, h1, h2 => by
    simp only [entOk, List.map_cons, List.cons.injEq, Prod.mk.injEq] at h1
    obtain ⟨⟨a1, a2⟩, a3⟩ := h1
    unfold mfindI at h2
    by_cases hk : k = q
    · rw [if_pos hk] at h2
      simp only [Option.some.injEq, Prod.mk.injEq] at h2
      obtain ⟨rfl, rfl⟩ := h2
      refine ⟨Nat.le_refl _, ?_⟩
      rw [Nat.sub_self]
      simp [a1, hk]
    · rw [if_neg hk] at h2
      obtain ⟨b1, b2⟩ := findI_key a3 h2
      refine ⟨by omega, ?_⟩
      rw [show j - i = (j - (i + 1)) + 1 by omega, List.getElem?_cons_succ]
      exact b2
theorem run_update_entS {g : κ → Value} {f : α → Value} {P : Program} {t kt et : TypeId} {b clock : Nat} {es : Array MapEntry} {l : List (κ × α)} {w : World} (K : KeyEnc P kt g) (ht : P.underlying t = some (.map kt et)) (hb : w.heap[b]? = some (.map es clock)) (h : entOk g f es.toList l) (hs : Stamped es clock) (k : κ) (v : α) :
    ∃ es' clock', (Instr.mapUpdate t (.map (some b)) (g k) (f v)).run P w = .ok () { w with heap := w.heap.setIfInBounds b (.map es' clock') } ∧ entOk g f es'.toList (mset l k v) ∧ Stamped es' clock' := by
  obtain ⟨es1, clock1, hr1, he1⟩ := run_update_ent K ht hb h k v
  have hlt := (Array.getElem?_eq_some_iff.1 hb).1
  have tell : ∀ es2 clock2, (Instr.mapUpdate t (.map (some b)) (g k) (f v)).run P w = .ok () { w with heap := w.heap.setIfInBounds b (.map es2 clock2) } → es1 = es2 ∧ clock1 = clock2 := fun es2 clock2 h2 => by
    rw [hr1] at h2
    have hw := (Result.ok.inj h2).2
    have hh : (w.heap.setIfInBounds b (.map es1 clock1))[b]? = (w.heap.setIfInBounds b (.map es2 clock2))[b]? := congrArg (fun W : World => W.heap[b]?) hw
    simp [hlt] at hh
    exact hh
  refine ⟨es1, clock1, hr1, he1, ?_⟩
  cases hm : mfindI l k 0 with
  | none =>
    obtain ⟨rfl, rfl⟩ := tell (es.push ⟨g k, f v, clock⟩) (clock + 1) (by
      unfold Instr.mapUpdate
      rw [Sem.run_bind, run_underlying ht, Result.andThen_ok]
      simp only [Sem.run_bind, MapKept.run_getObj_map hb, Result.andThen_ok, K.check, run_findKey_ent K h, hm, Option.map_none, MapKept.run_setObj_map _ hb])
    exact stamped_push hs _ _
  | some p =>
    obtain ⟨j, v0⟩ := p
    have hkey := findI_key h hm
    rw [Nat.sub_zero] at hkey
    have hkey : es[j]?.map (·.key) = some (g k) := by rw [← Array.getElem?_toList]; exact hkey.2
    have hk : ∃ k0 v', (Instr.mapUpdate t (.map (some b)) (g k) (f v)).run P w = .ok () { w with heap := w.heap.setIfInBounds b (.map (es.modify j fun e => { e with key := k0, val := v' }) clock) } := by
      unfold Instr.mapUpdate
      rw [Sem.run_bind, run_underlying ht, Result.andThen_ok]
      simp only [Sem.run_bind, MapKept.run_getObj_map hb, Result.andThen_ok, K.check, run_findKey_ent K h, hm, Option.map_some, hkey, Option.getD_some, keyThatStays, K.bits, if_true, Sem.run_pure, MapKept.run_setObj_map _ hb]
      exact ⟨_, _, rfl⟩
    obtain ⟨k0, v', hk⟩ := hk
    obtain ⟨rfl, rfl⟩ := tell _ _ hk
    exact stamped_modify hs _ _ _
theorem Nx.mapSetS (i : Nat) (g : κ → Value) (f : α → Value) {kt et : TypeId} {b : Nat} {l : List (κ × α)} {k : κ} {v : α} {op : Op} (hop : op = .insert t x y z ∨ op = .mapUpdate t x y z) (hx : evo e x = some (.map (some b))) (hy : evo e y = some (g k)) (hz : evo e z = some (f v))
    (KE : KeyEnc C.P kt g) (ht : C.P.underlying t = some (.map kt et)) (hk : nthL R i = some (MapS g f b l)) (h : Nx C e I (MapS g f b (mset l k v) :: R.eraseIdx i) K) : Nx C e I R (opK C.P ⟨none, op, ty, pos, after, gd⟩ K Q) := by
  refine Nx.ent (Ent.pull i R _ (nthL_eq.symm.trans hk)) ?_
  intro a w ha hw
  obtain ⟨⟨m, ⟨m1, m2, hd, rfl, ⟨es, clock, hb1, he, hs1⟩, h2⟩, hs⟩, hst⟩ := hw
  have hw0 : St C.W I ((fun m => m b = some (.map es clock)) :: R.eraseIdx i) w := ⟨⟨_, ⟨m1, m2, hd, rfl, hb1, h2⟩, hs⟩, hst⟩
  have hb : w.heap[b]? = some (.map es clock) := hs.own _ _ (PH.le_or_left _ _ _ _ hb1)
  obtain ⟨es', clock', hr, he', hs'⟩ := run_update_entS KE ht hb he hs1 k v
  unfold opK Oper.wp
  have hrun : (execOp a.eval ⟨none, op, ty, pos, after, gd⟩).run C.P w = .ok .skip { w with heap := w.heap.setIfInBounds b (.map es' clock') } := by
    rcases hop with rfl | rfl <;>
    · simp only [execOp, ha.eval hx, ha.eval hy, ha.eval hz]
      rw [Sem.run_bind, hr]
      rfl
  rw [hrun]
  have hlt := (Array.getElem?_eq_some_iff.1 hb).1
  refine h _ _ ha (hw0.upd (o := .map es' clock') (b := b) (fun m hm => ⟨by rw [hm]; rfl, es', clock', by simp, he', hs'⟩) (by simp [hlt]) (fun j hne o' ho => ?_) ⟨rfl, rfl, rfl, by simp, Nat.le_refl _⟩)
  simp only
  rw [Array.getElem?_setIfInBounds_ne (fun h => hne h.symm)]
  exact ho
end
end Go.Eng
/- Contracts of functions of the given program, and lemmas about plain lists and numbers: what the laws of this seat lean on. -/
namespace Go.Proofs.YtcmdemfhbekabaaGreat
open Go.Eng Go.Sol
/-! Counting through all tables of some cells -/
def prodD : List Int → Int
  | [] => 1
  | s :: S => s * prodD S
def numD : List Int → List Int → Int
  | _ :: S, d :: D => d * prodD S + numD S D
  | _, _ => 0
def InD : List Int → List Int → Prop
  | [], [] => True
  | s :: S, d :: D => (0 ≤ d ∧ d < s) ∧ InD S D
  | _, _ => False
def nextD : List Int → List Int → Option (List Int)
  | s :: S, d :: D => match nextD S D with
    | some D' => some (d :: D')
    | none => if d + 1 < s then some ((d + 1) :: D.map fun _ => 0) else none
  | _, _ => none
theorem InD.len : ∀ {S D : List Int}, InD S D → D.length = S.length
  | [], [], _ => rfl
  | [], _ :: _, h => h.elim
  | _ :: _, [], h => h.elim
  | _ :: S, _ :: D, h => by rw [List.length_cons, List.length_cons, InD.len h.2]
theorem InD.at : ∀ {S D : List Int}, InD S D → ∀ {j : Nat}, j < S.length → 0 ≤ D.getD j 0 ∧ D.getD j 0 < S.getD j 0
  | _ :: S, _ :: D, h, 0, _ => h.1
  | _ :: S, _ :: D, h, j + 1, hj => InD.at h.2 (j := j) (by simpa using hj)
theorem InD.of : ∀ {S D : List Int}, D.length = S.length → (∀ j, j < S.length → 0 ≤ D.getD j 0 ∧ D.getD j 0 < S.getD j 0) → InD S D
  | [], [], _, _ => trivial
  | [], _ :: _, h, _ => by simp at h
  | _ :: _, [], h, _ => by simp at h
  | s :: S, d :: D, h, hj => ⟨hj 0 (by simp), InD.of (by simpa using h) fun j hjl => hj (j + 1) (by simpa using hjl)⟩
theorem numD_bd : ∀ {S D : List Int}, InD S D → 0 ≤ numD S D ∧ numD S D < prodD S
  | [], [], _ => by simp [numD, prodD]
  | [], _ :: _, h => h.elim
  | _ :: _, [], h => h.elim
  | s :: S, d :: D, ⟨⟨h1, h2⟩, h⟩ => by
    obtain ⟨h3, h4⟩ := numD_bd h
    rw [numD, prodD]
    have h5 : 0 ≤ d * prodD S := Int.mul_nonneg h1 (by omega)
    have h6 : (d + 1) * prodD S ≤ s * prodD S := Int.mul_le_mul_of_nonneg_right (by omega) (by omega)
    rw [Int.add_mul, Int.one_mul] at h6
    constructor <;> omega
theorem zeros_in : ∀ {S D : List Int}, InD S D → InD S (D.map fun _ => 0) ∧ numD S (D.map fun _ => 0) = 0
  | [], [], _ => ⟨trivial, rfl⟩
  | [], _ :: _, h => h.elim
  | _ :: _, [], h => h.elim
  | s :: S, d :: D, ⟨h1, h⟩ => by
    obtain ⟨h2, h3⟩ := zeros_in h
    refine ⟨⟨⟨Int.le_refl _, by show (0 : Int) < s; omega⟩, h2⟩, ?_⟩
    rw [List.map_cons, numD, h3, Int.zero_mul]; rfl
theorem nextD_some : ∀ {S D D' : List Int}, InD S D → nextD S D = some D' → InD S D' ∧ numD S D' = numD S D + 1
  | [], [], _, _, h => by simp [nextD] at h
  | [], _ :: _, _, h, _ => h.elim
  | _ :: _, [], _, h, _ => h.elim
  | s :: S, d :: D, D', ⟨h1, h⟩, hn => by
    unfold nextD at hn
    cases hx : nextD S D with
    | some E =>
      rw [hx] at hn
      obtain rfl := Option.some.inj hn
      obtain ⟨h2, h3⟩ := nextD_some h hx
      exact ⟨⟨h1, h2⟩, by rw [numD, numD, h3]; omega⟩
    | none =>
      rw [hx] at hn
      dsimp only at hn
      split at hn
      · rename_i hlt
        obtain rfl := Option.some.inj hn
        obtain ⟨z1, z2⟩ := zeros_in h
        refine ⟨⟨⟨by omega, hlt⟩, z1⟩, ?_⟩
        have hN : numD S D = prodD S - 1 := nextD_none h hx
        rw [numD, numD, z2, hN, Int.add_mul, Int.one_mul]; omega
      · cases hn
where nextD_none : ∀ {S D : List Int}, InD S D → nextD S D = none → numD S D = prodD S - 1
  | [], [], _, _ => rfl
  | [], _ :: _, h, _ => h.elim
  | _ :: _, [], h, _ => h.elim
  | s :: S, d :: D, ⟨h1, h⟩, hn => by
    unfold nextD at hn
    cases hx : nextD S D with
    | some E => rw [hx] at hn; cases hn
    | none =>
      rw [hx] at hn
      dsimp only at hn
      split at hn
      · cases hn
      · have hd : d = s - 1 := by omega
        rw [numD, prodD, nextD_none h hx, hd, Int.sub_mul, Int.one_mul]; omega
theorem nextD_end {S D : List Int} (h : InD S D) (hn : nextD S D = none) : numD S D = prodD S - 1 := nextD_some.nextD_none h hn
theorem numD_inj : ∀ {S D E : List Int}, InD S D → InD S E → numD S D = numD S E → D = E
  | [], [], [], _, _, _ => rfl
  | [], _ :: _, _, h, _, _ => h.elim
  | [], [], _ :: _, _, h, _ => h.elim
  | _ :: _, [], _, h, _, _ => h.elim
  | _ :: _, _ :: _, [], _, h, _ => h.elim
  | s :: S, d :: D, e :: E, ⟨h1, h⟩, ⟨k1, k⟩, he => by
    obtain ⟨a1, a2⟩ := numD_bd h
    obtain ⟨b1, b2⟩ := numD_bd k
    rw [numD, numD] at he
    have hde : d = e := by
      rcases Int.lt_trichotomy d e with hlt | heq | hgt
      · have h6 : (d + 1) * prodD S ≤ e * prodD S := Int.mul_le_mul_of_nonneg_right (by omega) (by omega)
        rw [Int.add_mul, Int.one_mul] at h6
        omega
      · exact heq
      · have h6 : (e + 1) * prodD S ≤ d * prodD S := Int.mul_le_mul_of_nonneg_right (by omega) (by omega)
        rw [Int.add_mul, Int.one_mul] at h6
        omega
    subst hde
    rw [numD_inj h k (by omega)]
theorem nextD_go : ∀ {S D : List Int} {j : Nat}, D.length = S.length → j < D.length → nextD (S.drop (j + 1)) (D.drop (j + 1)) = none → D.getD j 0 + 1 < S.getD j 0 → nextD S D = some (D.take j ++ (D.getD j 0 + 1) :: (D.drop (j + 1)).map fun _ => 0)
  | [], D, j, hl, hj, _, _ => by rw [List.length_nil] at hl; omega
  | _ :: _, [], j, hl, hj, _, _ => by simp at hj
  | s :: S, d :: D, 0, hl, hj, hn, hlt => by
    simp only [List.drop_succ_cons, List.drop_zero] at hn
    unfold nextD
    rw [hn]
    dsimp only
    rw [if_pos (by simpa using hlt)]
    rfl
  | s :: S, d :: D, j + 1, hl, hj, hn, hlt => by
    have := nextD_go (S := S) (D := D) (j := j) (by simpa using hl) (by simpa using hj) (by simpa using hn) (by simpa using hlt)
    unfold nextD
    rw [this]
    rfl
theorem nextD_stop {S D : List Int} {j : Nat} (hl : D.length = S.length) (hj : j < D.length) (hn : nextD (S.drop (j + 1)) (D.drop (j + 1)) = none) (hlt : ¬ D.getD j 0 + 1 < S.getD j 0) : nextD (S.drop j) (D.drop j) = none := by
  rw [List.drop_eq_getElem_cons (show j < S.length by omega), List.drop_eq_getElem_cons hj]
  rw [List.getD_eq_getElem?_getD, List.getD_eq_getElem?_getD, List.getElem?_eq_getElem hj, List.getElem?_eq_getElem (show j < S.length by omega)] at hlt
  unfold nextD
  rw [hn]
  exact if_neg hlt
/-- Digits of which those from j on are 0. -/
def zerD (D : List Int) (j : Nat) : List Int := D.take j ++ (D.drop j).map fun _ => 0
theorem zerD_len (D : List Int) (j : Nat) : (zerD D j).length = D.length := by unfold zerD; rw [List.length_append, List.length_map, ← List.length_append, List.take_append_drop]
theorem zerD_all (D : List Int) : zerD D D.length = D := by unfold zerD; rw [List.take_length, List.drop_length, List.map_nil, List.append_nil]
theorem zerD_at {D : List Int} {i : Nat} (hi : i < D.length) : (zerD D (i + 1)).getD i 0 = D.getD i 0 := by
  unfold zerD
  rw [List.getD_eq_getElem?_getD, List.getElem?_append_left (by rw [List.length_take]; omega), List.getElem?_take_of_lt (by omega), ← List.getD_eq_getElem?_getD]
theorem zerD_set {D : List Int} {i : Nat} (v : Int) (hi : i < D.length) : (zerD D (i + 1)).set i v = D.take i ++ v :: (D.drop (i + 1)).map fun _ => 0 := by
  unfold zerD
  rw [List.set_append_left _ _ (by rw [List.length_take]; omega), List.take_succ_eq_append_getElem hi, List.set_append_right _ _ (by rw [List.length_take]; omega), List.length_take, show i - min i D.length = 0 by omega]
  simp
theorem zerD_succ {D : List Int} {i : Nat} (hi : i < D.length) : (zerD D (i + 1)).set i 0 = zerD D i := by
  rw [zerD_set 0 hi]
  unfold zerD
  rw [List.drop_eq_getElem_cons hi]
  rfl
/-- The table of some digits. -/
def tabD (n : Nat) (U : List Nat) (D : List Int) : List Int := (List.range n).map fun c => if c ∈ U then D.getD (U.idxOf c) 0 else 0
theorem tabD_len (n : Nat) (U : List Nat) (D : List Int) : (tabD n U D).length = n := by simp [tabD]
theorem tabD_get {n c : Nat} {U : List Nat} {D : List Int} (hc : c < n) : (tabD n U D).getD c 0 = if c ∈ U then D.getD (U.idxOf c) 0 else 0 := by
  unfold tabD
  rw [List.getD_eq_getElem?_getD, List.getElem?_map, List.getElem?_range hc]; rfl
theorem tabD_out {n c : Nat} {U : List Nat} {D : List Int} (hc : c ∉ U) : (tabD n U D).getD c 0 = 0 := by
  by_cases hn : c < n
  · rw [tabD_get hn, if_neg hc]
  · exact getD_ge (by rw [tabD_len]; omega)
theorem idx_at {U : List Nat} (hn : U.Nodup) {i : Nat} (hi : i < U.length) : U.getD i 0 ∈ U ∧ U.idxOf (U.getD i 0) = i := by
  rw [List.getD_eq_getElem?_getD, List.getElem?_eq_getElem hi]
  exact ⟨List.getElem_mem _, hn.idxOf_getElem i hi⟩
theorem tabD_at {n : Nat} {U : List Nat} {D : List Int} (hn : U.Nodup) {i : Nat} (hi : i < U.length) (hc : U.getD i 0 < n) : (tabD n U D).getD (U.getD i 0) 0 = D.getD i 0 := by
  obtain ⟨h1, h2⟩ := idx_at hn hi
  rw [tabD_get hc, if_pos h1, h2]
theorem tabD_set {n : Nat} {U : List Nat} {D : List Int} (hn : U.Nodup) {i : Nat} (hi : i < U.length) (hl : D.length = U.length) (hc : U.getD i 0 < n) (v : Int) : (tabD n U D).set (U.getD i 0) v = tabD n U (D.set i v) := by
  obtain ⟨h1, h2⟩ := idx_at hn hi
  refine ext_len (by rw [List.length_set, tabD_len, tabD_len]) fun c => ?_
  rw [getD_setI (by rw [tabD_len]; exact hc)]
  by_cases h : c = U.getD i 0
  · rw [if_pos h, h, tabD_get hc, if_pos h1, h2, List.getD_eq_getElem?_getD, List.getElem?_set_self (by omega)]; rfl
  · rw [if_neg h]
    by_cases hm : c ∈ U
    · by_cases hcn : c < n
      · rw [tabD_get hcn, tabD_get hcn, if_pos hm, if_pos hm, List.getD_eq_getElem?_getD, List.getD_eq_getElem?_getD, List.getElem?_set_ne]
        intro he
        apply h
        have h4 := List.getElem_idxOf (List.idxOf_lt_length_of_mem hm)
        subst he
        rw [List.getD_eq_getElem?_getD, List.getElem?_eq_getElem hi]
        exact h4.symm
      · rw [getD_ge (by rw [tabD_len]; omega), getD_ge (by rw [tabD_len]; omega)]
    · rw [tabD_out hm, tabD_out hm]
theorem room_lt : ∀ {L : List Eqn} {c : Nat} {v : Int}, v < roomOf L c ↔ v < 1000001 ∧ ∀ q ∈ L, c ∈ q.1 → v ≤ q.2 := by
  have key : ∀ (L : List Eqn) (c : Nat) (v a : Int), v < L.foldl (fun a q => if c ∈ q.1 then min a (q.2 + 1) else a) a ↔ v < a ∧ ∀ q ∈ L, c ∈ q.1 → v ≤ q.2 := by
    intro L
    induction L with
    | nil => intro c v a; simp
    | cons q L ih =>
      intro c v a
      rw [List.foldl_cons, ih]
      by_cases hc : c ∈ q.1
      · rw [if_pos hc]
        constructor
        · rintro ⟨h1, h2⟩
          refine ⟨by omega, fun p hp hpc => ?_⟩
          rcases List.mem_cons.1 hp with rfl | hp
          · omega
          · exact h2 p hp hpc
        · rintro ⟨h1, h2⟩
          have := h2 q (by simp) hc
          exact ⟨by omega, fun p hp => h2 p (by simp [hp])⟩
      · rw [if_neg hc]
        constructor
        · rintro ⟨h1, h2⟩
          refine ⟨h1, fun p hp hpc => ?_⟩
          rcases List.mem_cons.1 hp with rfl | hp
          · exact absurd hpc hc
          · exact h2 p hp hpc
        · rintro ⟨h1, h2⟩
          exact ⟨h1, fun p hp => h2 p (by simp [hp])⟩
  intro L c v
  exact key L c v 1000001
theorem sumC_le {t : List Int} : ∀ {cs : List Nat} {c : Nat}, (∀ x ∈ cs, 0 ≤ t.getD x 0) → c ∈ cs → t.getD c 0 ≤ sumC t cs
  | x :: cs, c, h, hc => by
    have h0 := h x (by simp)
    have hs : 0 ≤ sumC t cs := sumC_nonneg fun y hy => h y (by simp [hy])
    rw [sumC]
    rcases List.mem_cons.1 hc with rfl | hc
    · omega
    · have := sumC_le (fun y hy => h y (by simp [hy])) hc
      omega
theorem rooms_get {n j : Nat} {L : List Eqn} (hj : j < (touch n L).length) : (roomsOf n L).getD j 0 = roomOf L ((touch n L).getD j 0) := by
  unfold roomsOf
  rw [List.getD_eq_getElem?_getD, List.getElem?_map, List.getD_eq_getElem?_getD, List.getElem?_eq_getElem hj]; rfl
theorem rooms_len (n : Nat) (L : List Eqn) : (roomsOf n L).length = (touch n L).length := List.length_map _
/-- The solutions are the tables of digits that agree. -/
theorem tab_sol {n : Nat} {l : List EqR} (hg : ∀ q ∈ l, GoodE n q) {D : List Int} (hD : InD (roomsOf n (eqns l)) D) (hs : ∀ q ∈ eqns l, sumC (tabD n (touch n (eqns l)) D) q.1 = q.2) : tabD n (touch n (eqns l)) D ∈ solsOf n (eqns l) := by
  refine (mem_sols hg).2 ⟨tabD_len _ _ _, fun c hc => ?_, fun c hc => ?_, hs⟩
  · rw [tabD_out hc, zeros_at]
  · obtain ⟨i, hi, rfl⟩ := List.mem_iff_getElem.1 hc
    have e : (touch n (eqns l))[i] = (touch n (eqns l)).getD i 0 := by rw [List.getD_eq_getElem?_getD, List.getElem?_eq_getElem hi]; rfl
    have hc2 := (mem_touch.1 hc).1
    rw [e] at hc2 ⊢
    rw [tabD_at (touch_nd _ _) hi hc2]
    have h := hD.at (j := i) (by rw [rooms_len]; exact hi)
    rw [rooms_get hi] at h
    have := (room_lt.1 h.2).1
    omega
theorem sol_tab {n : Nat} {l : List EqR} (hg : ∀ q ∈ l, GoodE n q) {s : List Int} (hs : s ∈ solsOf n (eqns l)) : ∃ D, InD (roomsOf n (eqns l)) D ∧ s = tabD n (touch n (eqns l)) D := by
  obtain ⟨h1, h2, h3, h4⟩ := (mem_sols hg).1 hs
  have hat : ∀ i, i < (touch n (eqns l)).length → ((touch n (eqns l)).map fun c => s.getD c 0).getD i 0 = s.getD ((touch n (eqns l)).getD i 0) 0 := fun i hi => by
    rw [List.getD_eq_getElem?_getD, List.getElem?_map, List.getD_eq_getElem?_getD (l := touch n (eqns l)), List.getElem?_eq_getElem hi]; rfl
  have hmem : ∀ i, i < (touch n (eqns l)).length → (touch n (eqns l)).getD i 0 ∈ touch n (eqns l) := fun i hi => (idx_at (touch_nd _ _) hi).1
  refine ⟨(touch n (eqns l)).map fun c => s.getD c 0, InD.of (by rw [List.length_map, rooms_len]) fun j hj => ?_, ext_len (by rw [h1, tabD_len]) fun c => ?_⟩
  · rw [rooms_len] at hj
    rw [hat j hj, rooms_get hj]
    have hm := hmem j hj
    refine ⟨(h3 _ hm).1, room_lt.2 ⟨by have := (h3 _ hm).2; omega, fun q hq hc => ?_⟩⟩
    rw [← h4 q hq]
    refine sumC_le (fun x hx => ?_) hc
    by_cases hxn : x ∈ touch n (eqns l)
    · exact (h3 x hxn).1
    · rw [h2 x hxn, zeros_at]; exact Int.le_refl _
  · by_cases hc : c ∈ touch n (eqns l)
    · obtain ⟨i, hi, rfl⟩ := List.mem_iff_getElem.1 hc
      have e : (touch n (eqns l))[i] = (touch n (eqns l)).getD i 0 := by rw [List.getD_eq_getElem?_getD, List.getElem?_eq_getElem hi]; rfl
      have hc2 := (mem_touch.1 hc).1
      rw [e] at hc2 ⊢
      rw [tabD_at (touch_nd _ _) hi hc2, hat i hi]
    · rw [tabD_out hc, h2 c hc, zeros_at]
/-- What a cell can be, ascending. -/
def valsOf (n : Nat) (L : List Eqn) (k : Nat) : List Int := Lib.compact (srtL ((solsOf n L).map fun s => s.getD k 0))
theorem vals_set (n : Nat) (L : List Eqn) (k : Nat) : IsSet (valsOf n L k) (fun z => ∃ s ∈ solsOf n L, s.getD k 0 = z) := by
  have h := set_of ((solsOf n L).map fun s => s.getD k 0)
  exact ⟨h.asc, fun z => by rw [show valsOf n L k = Lib.compact (srtL ((solsOf n L).map fun s => s.getD k 0)) from rfl, h.mem, List.mem_map]⟩
theorem srt_vals {n : Nat} {L : List Eqn} {k : Nat} {xs : List Int} (hn : xs.Nodup) (hm : ∀ z, z ∈ xs ↔ ∃ s ∈ solsOf n L, s.getD k 0 = z) : srtL xs = valsOf n L k := by
  have hv := vals_set n L k
  refine asc_ext ?_ hv.asc fun z => by rw [srtL_mem, hm, hv.mem]
  have h1 := srtL_sorted xs
  have h2 : (srtL xs).Nodup := (List.mergeSort_perm xs _).nodup_iff.2 hn
  exact (h1.and h2).imp fun h => Int.lt_iff_le_and_ne.2 h
theorem mset_keys {xs : List (Int × Unit)} {k z : Int} : z ∈ (mset xs k ()).map (·.1) ↔ z = k ∨ z ∈ xs.map (·.1) := by
  induction xs with
  | nil => simp [mset]
  | cons p xs ih =>
    obtain ⟨q, u⟩ := p
    unfold mset
    by_cases h : k = q
    · rw [if_pos h, h]; simp
    · rw [if_neg h, List.map_cons, List.mem_cons, ih, List.map_cons, List.mem_cons]
      constructor
      · rintro (h | h | h)
        · exact .inr (.inl h)
        · exact .inl h
        · exact .inr (.inr h)
      · rintro (h | h | h)
        · exact .inr (.inl h)
        · exact .inl h
        · exact .inr (.inr h)
theorem mset_nodup {xs : List (Int × Unit)} {k : Int} (h : (xs.map (·.1)).Nodup) : ((mset xs k ()).map (·.1)).Nodup := by
  induction xs with
  | nil => simp [mset]
  | cons p xs ih =>
    obtain ⟨q, u⟩ := p
    unfold mset
    by_cases hk : k = q
    · rw [if_pos hk]; exact h
    · rw [if_neg hk]
      rw [List.map_cons, List.nodup_cons] at h ⊢
      exact ⟨fun hm => (mset_keys.1 hm).elim (fun e => hk e.symm) h.1, ih h.2⟩
end Go.Proofs.YtcmdemfhbekabaaGreat
/- Contracts of functions of the given program, and lemmas about plain lists and numbers: what the laws of this seat lean on. -/
namespace Go.Proofs.YtcmdemfhbekabaaGreat
open Go.Eng Go.Sol
attribute [local irreducible] opK wpList Code.wp Exit.then Exit.inBlock fnPost bodyPost Nx Calls Oper.wp Rd Rds Wr Ent Stars Blk Again Vec FnSpec wpMix QRun Stop Upto wpAt
attribute [local irreducible] wpForkF
/-! The first table, and the next one -/
abbrev natI (U : List Nat) : List Int := U.map Int.ofNat
set_option maxRecDepth 10000 in
set_option maxHeartbeats 8000000 in
theorem dstart_r1 (w : World) (K : Act → World → Prop) (Q : Exit → Act → World → Prop) (hQ : PanicOk Q) (F : Res) (A : Option Addr) (c : Nat) (l : List EqR) (n : Nat) (I : PH) (hl : Eqs I A c l) (hg : ∀ q ∈ l, GoodE n q) (hn : n ≤ 4096) (h9 : (allC l).length ≤ 1000000)
    (h : ∀ At ct bt b, Nx ⟨Tryz.prog, 55, w⟩ [(0, .int .i64 (n : Int)), (1, .slice A l.length c), (5, .pointer (some ⟨b, 0, none⟩))] I [Blk b 142 [.slice At (touch n (eqns l)).length ct, .slice none 0 0, .slice (some ⟨bt, 0, none⟩) n n], iR At ct (natI (touch n (eqns l))), Vec 3 1 (some ⟨bt, 0, none⟩) n n ((List.replicate n (0 : Int)).map (Value.int .i64)), F] K) :
    Nx ⟨Tryz.prog, 55, w⟩ [(0, .int .i64 (n : Int)), (1, .slice A l.length c)] I [F] (Code.wp Tryz.prog (cl (cr (bodyOf Tryz.f117))) (Exit.then K Q)) := by
  have hlen := hl.len
  have hT := Touched_spec A c l n I hl hg h9
  refine Nx.p_forkF (id := 1) rfl [5, 6, 7] [5, 6, 7] [6] [] rfl rfl (by kernel_rfl) (by kernel_rfl) (PanicOk.then_ hQ) (Ent.nil _) ?_
  refine Nx.forkF_qs [0, 1, 3] 5 rfl (by kernel_rfl) ?_
  repeat' first
    | ((with_reducible refine Nx.is_wp ?_); first | refine Nx.wo ?_ | refine Nx.zp (fun hc => ?_) (fun hc => ?_))
    | (refine Nx.zo ?_; first | refine Nx.opr rfl rfl ?_ | refine Nx.so ?_ | refine Nx.sb (fun bx => ?_) | refine Nx.sa (fun A2 c2 => ?_))
    | ((with_reducible refine Nx.is_at ?_); first | refine Nx.a ?_ | refine Nx.zd ?_ | refine Nx.zs (fun hc => ?_) (fun hc => ?_))
    | ((with_reducible refine Nx.is_mix ?_); first | refine Nx.m ?_ | refine Nx.zm ?_ | refine Nx.zt (fun hc => ?_) (fun hc => ?_))
    | refine Nx.zx ?_ | fail
  refine Nx.forkF2 (i := 2) (j := 4) (by kernel_rfl) rfl rfl rfl rfl ?_ ?_
  · refine Nx.call (Rpre := []) rfl rfl rfl (by kernel_rfl) rfl hT (Ent.refl _) ?_
    rintro _ _ ⟨At, ct, rfl, rfl⟩
    refine Nx.mix_S (Ent.nil _) ?_
    refine Nx.forkF1 (i := 4) (by kernel_rfl) rfl rfl ?_
    refine Nx.makeInts rfl rfl rfl rfl rfl rfl rfl rfl (by omega) (fun bt => ?_)
    refine Nx.mix_S (Ent.nil _) ?_
    refine Nx.forkF_fin (by kernel_rfl) (by kernel_rfl) rfl ?_
    repeat' first
      | ((with_reducible refine Nx.is_wp ?_); first | refine Nx.wo ?_ | refine Nx.zp (fun hc => ?_) (fun hc => ?_))
      | (refine Nx.zo ?_; first | refine Nx.opr rfl rfl ?_ | refine Nx.so ?_ | refine Nx.sb (fun bx => ?_) | refine Nx.sa (fun A2 c2 => ?_))
      | ((with_reducible refine Nx.is_at ?_); first | refine Nx.a ?_ | refine Nx.zd ?_ | refine Nx.zs (fun hc => ?_) (fun hc => ?_))
      | ((with_reducible refine Nx.is_mix ?_); first | refine Nx.m ?_ | refine Nx.zm ?_ | refine Nx.zt (fun hc => ?_) (fun hc => ?_))
      | refine Nx.zx ?_ | fail
    exact Nx.weak (by exact ⟨rfl, rfl, rfl, trivial⟩) (by unfold iR; (exact Ent.auto)) (h At ct bt _)
  · refine Nx.makeInts rfl rfl rfl rfl rfl rfl rfl rfl (by omega) (fun bt => ?_)
    refine Nx.mix_S (Ent.nil _) ?_
    refine Nx.forkF1 (i := 2) (by kernel_rfl) rfl rfl ?_
    refine Nx.call (Rpre := []) rfl rfl rfl (by kernel_rfl) rfl hT (Ent.refl _) ?_
    rintro _ _ ⟨At, ct, rfl, rfl⟩
    refine Nx.mix_S (Ent.nil _) ?_
    refine Nx.forkF_fin (by kernel_rfl) (by kernel_rfl) rfl ?_
    repeat' first
      | ((with_reducible refine Nx.is_wp ?_); first | refine Nx.wo ?_ | refine Nx.zp (fun hc => ?_) (fun hc => ?_))
      | (refine Nx.zo ?_; first | refine Nx.opr rfl rfl ?_ | refine Nx.so ?_ | refine Nx.sb (fun bx => ?_) | refine Nx.sa (fun A2 c2 => ?_))
      | ((with_reducible refine Nx.is_at ?_); first | refine Nx.a ?_ | refine Nx.zd ?_ | refine Nx.zs (fun hc => ?_) (fun hc => ?_))
      | ((with_reducible refine Nx.is_mix ?_); first | refine Nx.m ?_ | refine Nx.zm ?_ | refine Nx.zt (fun hc => ?_) (fun hc => ?_))
      | refine Nx.zx ?_ | fail
    exact Nx.weak (by exact ⟨rfl, rfl, rfl, trivial⟩) (by unfold iR; (exact Ent.auto)) (h At ct bt _)
theorem nat_at {U : List Nat} {i : Nat} (hi : i < U.length) : (natI U).getD i default = ((U.getD i 0 : Nat) : Int) := by
  unfold natI
  rw [List.getD_eq_getElem?_getD, List.getElem?_map, List.getElem?_eq_getElem hi, List.getD_eq_getElem?_getD, List.getElem?_eq_getElem hi]; rfl
def DStartPost (n : Nat) (l : List EqR) (v : Value) (R' : List Res) : Prop :=
  ∃ (b : Nat) (At : Option Addr) (ct : Nat) (As : Option Addr) (cs bt : Nat), v = .pointer (some ⟨b, 0, none⟩) ∧ R' = [Blk b 142 [.slice At (touch n (eqns l)).length ct, .slice As (roomsOf n (eqns l)).length cs, .slice (some ⟨bt, 0, none⟩) n n], iR At ct (natI (touch n (eqns l))), iR As cs (roomsOf n (eqns l)), Vec 3 1 (some ⟨bt, 0, none⟩) n n ((List.replicate n (0 : Int)).map (Value.int .i64))]
set_option maxRecDepth 10000 in
set_option maxHeartbeats 16000000 in
theorem dstart_spec (A : Option Addr) (c : Nat) (l : List EqR) (n : Nat) (I : PH) (hl : Eqs I A c l) (hg : ∀ q ∈ l, GoodE n q) (hn : n ≤ 4096) (h9 : (allC l).length ≤ 1000000) :
    FnSpec Tryz.prog 117 [.int .i64 (n : Int), .slice A l.length c] I [] (DStartPost n l) := by
  have hlen := hl.len
  refine FnSpec.enterP Tryz.func117 rfl Tryz.ntmps117 rfl fun w F => ?_
  repeat' first
    | ((with_reducible refine Nx.is_wp ?_); first | refine Nx.wo ?_ | refine Nx.zp (fun hc => ?_) (fun hc => ?_))
    | (refine Nx.zo ?_; first | refine Nx.opr rfl rfl ?_ | refine Nx.so ?_ | refine Nx.sb (fun bx => ?_) | refine Nx.sa (fun A2 c2 => ?_))
    | ((with_reducible refine Nx.is_at ?_); first | refine Nx.a ?_ | refine Nx.zd ?_ | refine Nx.zs (fun hc => ?_) (fun hc => ?_))
    | ((with_reducible refine Nx.is_mix ?_); first | refine Nx.m ?_ | refine Nx.zm ?_ | refine Nx.zt (fun hc => ?_) (fun hc => ?_))
    | refine Nx.zx ?_ | fail
  refine Nx.weak (by exact ⟨rfl, rfl, trivial⟩) (by (exact Ent.auto)) (dstart_r1 w _ _ (by repeat first | exact PanicOk.fn | refine PanicOk.then_ ?_ | refine PanicOk.inB ?_) F A c l n I hl hg hn h9 fun At ct bt b => ?_)
  have hul : (touch n (eqns l)).length ≤ n := by unfold touch; exact Nat.le_trans (List.length_filter_le _ _) (by simp)
  have hin : ∀ i, i < (touch n (eqns l)).length → (touch n (eqns l)).getD i 0 < n := fun i hi => (mem_touch.1 (idx_at (touch_nd _ _) hi).1).1
  have hrl := rooms_len n (eqns l)
  have hrg : ∀ i, i < (touch n (eqns l)).length → (roomsOf n (eqns l)).getD i default = roomOf (eqns l) ((touch n (eqns l)).getD i 0) := fun i hi => rooms_get hi
  unfold DStartPost
  generalize touch n (eqns l) = U at hul hin hrl hrg
  generalize roomsOf n (eqns l) = rs at hrl hrg
  refine Nx.ent (R' := [iR At ct (natI U), Blk b 142 [.slice At U.length ct, .slice none 0 0, .slice (some ⟨bt, 0, none⟩) n n], Vec 3 1 (some ⟨bt, 0, none⟩) n n ((List.replicate n (0 : Int)).map (Value.int .i64)), F]) (by (exact Ent.auto)) ?_
  repeat' first
    | ((with_reducible refine Nx.is_wp ?_); first | refine Nx.wo ?_ | refine Nx.zp (fun hc => ?_) (fun hc => ?_))
    | (refine Nx.zo ?_; first | refine Nx.opr rfl rfl ?_ | refine Nx.so ?_ | refine Nx.sb (fun bx => ?_) | refine Nx.sa (fun A2 c2 => ?_))
    | ((with_reducible refine Nx.is_at ?_); first | refine Nx.a ?_ | refine Nx.zd ?_ | refine Nx.zs (fun hc => ?_) (fun hc => ?_))
    | ((with_reducible refine Nx.is_mix ?_); first | refine Nx.m ?_ | refine Nx.zm ?_ | refine Nx.zt (fun hc => ?_) (fun hc => ?_))
    | refine Nx.zx ?_ | fail
  refine Nx.p_loop (σ := Nat × Option Addr × Nat) (fun s => [(1, .slice A l.length c), (5, .pointer (some ⟨b, 0, none⟩)), (21, .slice At U.length ct), (22, .int .i64 U.length), (23, .int .i64 (s.1 : Int))])
    (fun s => [iR At ct (natI U), iR s.2.1 s.2.2 (rs.take s.1), Blk b 142 [.slice At U.length ct, .slice s.2.1 (rs.take s.1).length s.2.2, .slice (some ⟨bt, 0, none⟩) n n], Vec 3 1 (some ⟨bt, 0, none⟩) n n ((List.replicate n (0 : Int)).map (Value.int .i64)), F]) (fun s => s.1 ≤ U.length) (fun s => U.length - s.1) (0, none, 0) rfl (Nat.zero_le _) ⟨rfl, rfl, rfl, rfl, rfl, trivial⟩ ((Ent.vec_nil 3 1 _).trans (by (exact Ent.auto))) ?_
  rintro ⟨k, As, cs⟩ hk
  dsimp only at hk ⊢
  by_cases hkl : k < U.length
  case neg =>
    rw [List.take_of_length_le (by omega)]
    repeat' first
      | ((with_reducible refine Nx.is_wp ?_); first | refine Nx.wo ?_ | refine Nx.zp (fun hc => ?_) (fun hc => ?_))
      | (refine Nx.zo ?_; first | refine Nx.opr rfl rfl ?_ | refine Nx.so ?_ | refine Nx.sb (fun bx => ?_) | refine Nx.sa (fun A2 c2 => ?_))
      | ((with_reducible refine Nx.is_at ?_); first | refine Nx.a ?_ | refine Nx.zd ?_ | refine Nx.zs (fun hc => ?_) (fun hc => ?_))
      | ((with_reducible refine Nx.is_mix ?_); first | refine Nx.m ?_ | refine Nx.zm ?_ | refine Nx.zt (fun hc => ?_) (fun hc => ?_))
      | refine Nx.zx ?_ | fail
    exact Nx.ret_fn rfl [_, _, _, _] ⟨b, At, ct, As, cs, bt, rfl, rfl⟩ (by (exact Ent.auto))
  have hik := hin k hkl
  have hrk := hrg k hkl
  have hcr : ∀ (W : World) (R : List Res), Rd W I (iR At ct (natI U) :: R) ((ad At).add (k * 1)) (.int .i64 ((U.getD k 0 : Nat) : Int)) := fun W R => by
    have h := Rd.vecEl (W := W) (I := I) (R := iR At ct (natI U) :: R) 0 (f := Value.int .i64) (l := natI U) (i := k) rfl (by rw [List.length_map]; exact hkl)
    rw [nat_at hkl] at h
    exact h
  generalize U.getD k 0 = y at hik hrk hcr
  have hts := take_snocJ (l := rs) (k := k) (by omega)
  rw [hrk] at hts
  have htl : (rs.take k).length = k := by rw [List.length_take]; omega
  refine Nx.vec_fact fun _ hv2 _ hAt => ?_
  rw [List.length_map] at hv2 hAt
  repeat' first
    | ((with_reducible refine Nx.is_wp ?_); first | refine Nx.wo ?_ | refine Nx.zp (fun hc => ?_) (fun hc => ?_))
    | (refine Nx.zo ?_; first | refine Nx.opr rfl rfl ?_ | refine Nx.indexAddr_nat rfl rfl rfl rfl rfl hkl (hAt (by omega)) ?_ | refine Nx.load rfl rfl rfl (hcr _ _) ?_ | refine Nx.so ?_ | refine Nx.sb (fun bx => ?_) | refine Nx.sa (fun A2 c2 => ?_))
    | ((with_reducible refine Nx.is_at ?_); first | refine Nx.a ?_ | refine Nx.zd ?_ | refine Nx.zs (fun hc => ?_) (fun hc => ?_))
    | ((with_reducible refine Nx.is_mix ?_); first | refine Nx.m ?_ | refine Nx.zm ?_ | refine Nx.zt (fun hc => ?_) (fun hc => ?_))
    | refine Nx.zx ?_ | fail
  refine Nx.p_loop (σ := Nat) (fun j => [(1, .slice A l.length c), (5, .pointer (some ⟨b, 0, none⟩)), (21, .slice At U.length ct), (22, .int .i64 U.length), (23, .int .i64 (k : Int)), (7, .int .i64 (y : Int)), (8, .int .i64 (roomOf (eqns (l.take j)) y)), (27, .slice A l.length c), (28, .int .i64 l.length), (29, .int .i64 (j : Int))])
    (fun _ => [iR At ct (natI U), iR As cs (rs.take k), Blk b 142 [.slice At U.length ct, .slice As (rs.take k).length cs, .slice (some ⟨bt, 0, none⟩) n n], Vec 3 1 (some ⟨bt, 0, none⟩) n n ((List.replicate n (0 : Int)).map (Value.int .i64)), F]) (fun j => j ≤ l.length) (fun j => l.length - j) 0 rfl (Nat.zero_le _) ⟨rfl, rfl, rfl, rfl, rfl, rfl, rfl, rfl, rfl, rfl, trivial⟩ (by (exact Ent.auto)) ?_
  intro j hj
  have hj : j ≤ l.length := hj
  by_cases hjl : j < l.length
  · have hinq := hl.inner _ (getD_memQ hjl)
    have hgq := hg _ (getD_memQ hjl)
    have hes := eqns_snoc hjl
    have hrds : ∀ (W : World) (R : List Res), Rds W I R ((ad A).add (j * 2)) (eqC (l.getD j default)) := fun W R => hl.outer.rds hjl
    have hrb := room_bd (L := eqns (l.take j)) (c := y) (fun q hq => by
      obtain ⟨x, hx, rfl⟩ := List.mem_map.1 hq
      exact (hg x (List.mem_of_mem_take hx)).val.1)
    generalize l.getD j default = q at hinq hgq hes hrds
    obtain ⟨⟨Ax, cx, ix⟩, z⟩ := q
    dsimp only at hinq
    replace hrds : ∀ (W : World) (R : List Res), Rds W I R ((ad A).add (j * 2)) [.slice Ax ix.length cx, .int .i64 z] := hrds
    have hz := hgq.val
    dsimp only at hz
    have hCn := ContainsI_spec Ax cx ix (y : Int) I hinq
    have hms := mem_eqn hgq (c := y)
    dsimp only at hms
    have hrs : roomOf (eqns (l.take (j + 1))) y = if (y : Int) ∈ ix then min (roomOf (eqns (l.take j)) y) (z + 1) else roomOf (eqns (l.take j)) y := by
      rw [hes, room_snoc]
      by_cases hm : (y : Int) ∈ ix
      · rw [if_pos hm, if_pos (hms.2 hm)]; rfl
      · rw [if_neg hm, if_neg fun h => hm (hms.1 h)]
    by_cases hm : (y : Int) ∈ ix
    · rw [if_pos hm] at hrs
      rw [decide_eq_true hm] at hCn
      repeat' first
        | ((with_reducible refine Nx.is_wp ?_); first | refine Nx.wo ?_ | refine Nx.zp (fun hc => ?_) (fun hc => ?_))
        | (refine Nx.zo ?_; first | refine Nx.opr rfl rfl ?_ | refine Nx.indexAddr_nat rfl rfl rfl rfl rfl (by omega) (hl.outer.isSome (by omega) (by omega)) ?_ | refine Nx.loads rfl rfl rfl rfl (hrds _ _) rfl ?_ | refine Nx.callv rfl rfl rfl (by kernel_rfl) rfl hCn ?_ | refine Nx.so ?_ | refine Nx.sb (fun bx => ?_) | refine Nx.sa (fun A2 c2 => ?_))
        | ((with_reducible refine Nx.is_at ?_); first | refine Nx.a ?_ | refine Nx.zd ?_ | refine Nx.zs (fun hc => ?_) (fun hc => ?_))
        | ((with_reducible refine Nx.is_mix ?_); first | refine Nx.m ?_ | refine Nx.zm ?_ | refine Nx.zt (fun hc => ?_) (fun hc => ?_))
        | refine Nx.zx ?_ | fail
      exact Nx.again (j + 1) hjl (by omega) ⟨rfl, rfl, rfl, rfl, rfl, rfl, by rw [hrs]; rfl, rfl, rfl, rfl, trivial⟩ (by (exact Ent.auto))
    · rw [if_neg hm] at hrs
      rw [decide_eq_false hm] at hCn
      repeat' first
        | ((with_reducible refine Nx.is_wp ?_); first | refine Nx.wo ?_ | refine Nx.zp (fun hc => ?_) (fun hc => ?_))
        | (refine Nx.zo ?_; first | refine Nx.opr rfl rfl ?_ | refine Nx.indexAddr_nat rfl rfl rfl rfl rfl (by omega) (hl.outer.isSome (by omega) (by omega)) ?_ | refine Nx.loads rfl rfl rfl rfl (hrds _ _) rfl ?_ | refine Nx.callv rfl rfl rfl (by kernel_rfl) rfl hCn ?_ | refine Nx.so ?_ | refine Nx.sb (fun bx => ?_) | refine Nx.sa (fun A2 c2 => ?_))
        | ((with_reducible refine Nx.is_at ?_); first | refine Nx.a ?_ | refine Nx.zd ?_ | refine Nx.zs (fun hc => ?_) (fun hc => ?_))
        | ((with_reducible refine Nx.is_mix ?_); first | refine Nx.m ?_ | refine Nx.zm ?_ | refine Nx.zt (fun hc => ?_) (fun hc => ?_))
        | refine Nx.zx ?_ | fail
      exact Nx.again (j + 1) hjl (by omega) ⟨rfl, rfl, rfl, rfl, rfl, rfl, by rw [hrs]; rfl, rfl, rfl, rfl, trivial⟩ (by (exact Ent.auto))
  obtain rfl : j = l.length := by omega
  rw [List.take_length]
  repeat' first
    | ((with_reducible refine Nx.is_wp ?_); first | refine Nx.wo ?_ | refine Nx.zp (fun hc => ?_) (fun hc => ?_))
    | (refine Nx.zo ?_; first | refine Nx.opr rfl rfl ?_ | refine Nx.so ?_ | refine Nx.sb (fun bx => ?_) | refine Nx.sa (fun A2 c2 => ?_))
    | ((with_reducible refine Nx.is_at ?_); first | refine Nx.a ?_ | refine Nx.zd ?_ | refine Nx.zs (fun hc => ?_) (fun hc => ?_))
    | ((with_reducible refine Nx.is_mix ?_); first | refine Nx.m ?_ | refine Nx.zm ?_ | refine Nx.zt (fun hc => ?_) (fun hc => ?_))
    | refine Nx.zx ?_ | fail
  refine Nx.again (k + 1, A2, c2) hkl (by dsimp only; omega) ⟨rfl, rfl, rfl, rfl, rfl, trivial⟩ ?_
  dsimp only
  rw [hts, List.length_append (bs := [_]), List.length_singleton]
  unfold iR
  rw [List.length_append (bs := [_]), List.length_singleton, List.map_append]
  (exact Ent.auto)
end Go.Proofs.YtcmdemfhbekabaaGreat
/- Contracts of functions of the given program, and lemmas about plain lists and numbers: what the laws of this seat lean on. -/
namespace Go.Proofs.YtcmdemfhbekabaaGreat
open Go.Eng Go.Sol
attribute [local irreducible] opK wpList Code.wp Exit.then Exit.inBlock fnPost bodyPost Nx Calls Oper.wp Rd Rds Wr Ent Stars Blk Again Vec FnSpec wpMix QRun Stop Upto wpAt
/-! The next table -/
abbrev digR (b : Nat) (At As : Option Addr) (ct cs bt n : Nat) (U : List Nat) (rs : List Int) : Res := Blk b 142 [.slice At U.length ct, .slice As rs.length cs, .slice (some ⟨bt, 0, none⟩) n n]
abbrev tabR (bt n : Nat) (t : List Int) : Res := Vec 3 1 (some ⟨bt, 0, none⟩) n n (t.map (Value.int .i64))
def NextPost (b : Nat) (At As : Option Addr) (ct cs bt n : Nat) (U : List Nat) (rs D : List Int) (v : Value) (R' : List Res) : Prop :=
  (∃ D', nextD rs D = some D' ∧ v = .bool true ∧ R' = [digR b At As ct cs bt n U rs, tabR bt n (tabD n U D')]) ∨ (nextD rs D = none ∧ v = .bool false ∧ R' = [digR b At As ct cs bt n U rs, tabR bt n (tabD n U (zerD D 0))])
set_option maxRecDepth 10000 in
set_option maxHeartbeats 16000000 in
theorem next_spec (b : Nat) (At As : Option Addr) (ct cs bt n : Nat) (U : List Nat) (rs D : List Int) (I : PH) (hc : Ints I At ct (natI U)) (hs : Ints I As cs rs) (hD : InD rs D) (hlen : rs.length = U.length) (hU : U.Nodup) (hin : ∀ i, i < U.length → U.getD i 0 < n) (hn : n ≤ 4096) (hr : ∀ i, i < rs.length → rs.getD i 0 ≤ 1000001) :
    FnSpec Tryz.prog 118 [.pointer (some ⟨b, 0, none⟩)] I [digR b At As ct cs bt n U rs, tabR bt n (tabD n U D)] (NextPost b At As ct cs bt n U rs D) := by
  have hcl := hc.len
  have hsl := hs.len
  have hnl : (natI U).length = U.length := List.length_map _
  rw [hnl] at hcl
  have hDl := hD.len
  unfold NextPost
  refine FnSpec.enterP Tryz.func118 rfl Tryz.ntmps118 rfl fun w F => ?_
  unfold digR tabR
  repeat' first
    | ((with_reducible refine Nx.is_wp ?_); first | refine Nx.wo ?_ | refine Nx.zp (fun hc => ?_) (fun hc => ?_))
    | (refine Nx.zo ?_; first | refine Nx.opr rfl rfl ?_ | refine Nx.so ?_ | refine Nx.sb (fun bx => ?_) | refine Nx.sa (fun A2 c2 => ?_))
    | ((with_reducible refine Nx.is_at ?_); first | refine Nx.a ?_ | refine Nx.zd ?_ | refine Nx.zs (fun hc => ?_) (fun hc => ?_))
    | ((with_reducible refine Nx.is_mix ?_); first | refine Nx.m ?_ | refine Nx.zm ?_ | refine Nx.zt (fun hc => ?_) (fun hc => ?_))
    | refine Nx.zx ?_ | fail
  refine Nx.p_loop (σ := Nat) (fun j => [(0, .pointer (some ⟨b, 0, none⟩)), (3, .int .i64 ((j : Int) - 1))])
    (fun j => [Blk b 142 [.slice At U.length ct, .slice As rs.length cs, .slice (some ⟨bt, 0, none⟩) n n], Vec 3 1 (some ⟨bt, 0, none⟩) n n ((tabD n U (zerD D j)).map (Value.int .i64)), F]) (fun j => j ≤ U.length ∧ nextD (rs.drop j) (D.drop j) = none) (fun j => j) U.length rfl ⟨Nat.le_refl _, by rw [List.drop_eq_nil_of_le (by omega), List.drop_eq_nil_of_le (by omega)]; rfl⟩ ⟨rfl, rfl, trivial⟩ (by rw [show zerD D U.length = D by rw [← hlen, ← hDl]; exact zerD_all D]; (exact Ent.auto)) ?_
  rintro j ⟨hj, hjn⟩
  cases j with
  | zero =>
    rw [List.drop_zero, List.drop_zero] at hjn
    repeat' first
      | ((with_reducible refine Nx.is_wp ?_); first | refine Nx.wo ?_ | refine Nx.zp (fun hc => ?_) (fun hc => ?_))
      | (refine Nx.zo ?_; first | refine Nx.opr rfl rfl ?_ | refine Nx.so ?_ | refine Nx.sb (fun bx => ?_) | refine Nx.sa (fun A2 c2 => ?_))
      | ((with_reducible refine Nx.is_at ?_); first | refine Nx.a ?_ | refine Nx.zd ?_ | refine Nx.zs (fun hc => ?_) (fun hc => ?_))
      | ((with_reducible refine Nx.is_mix ?_); first | refine Nx.m ?_ | refine Nx.zm ?_ | refine Nx.zt (fun hc => ?_) (fun hc => ?_))
      | refine Nx.zx ?_ | fail
    exact Nx.ret_fn rfl [_, _] (.inr ⟨hjn, rfl, rfl⟩) (by (exact Ent.auto))
  | succ i =>
    have hiU : i < U.length := hj
    have hiD : i < D.length := by omega
    rw [show (((i + 1 : Nat) : Int) - 1) = (i : Int) by omega]
    have hyn := hin i hiU
    have hDi := hD.at (j := i) (by omega)
    have hri := hr i (by omega)
    have hcr : ∀ (W : World) (R : List Res), Rd W I R ((ad At).add (i * 1)) (.int .i64 ((U.getD i 0 : Nat) : Int)) := fun W R => by rw [← nat_at hiU]; exact hc.rd (by omega)
    have hsr : ∀ (W : World) (R : List Res), Rd W I R ((ad As).add (i * 1)) (.int .i64 (rs.getD i 0)) := fun W R => hs.rd (by omega)
    have htl := tabD_len n U (zerD D (i + 1))
    have hta : (tabD n U (zerD D (i + 1))).getD (U.getD i 0) default = D.getD i 0 := by
      show (tabD n U (zerD D (i + 1))).getD (U.getD i 0) 0 = _
      rw [tabD_at hU hiU hyn, zerD_at hiD]
    have hset : ∀ v, (tabD n U (zerD D (i + 1))).set (U.getD i 0) v = tabD n U (D.take i ++ v :: (D.drop (i + 1)).map fun _ => 0) := fun v => by
      rw [tabD_set hU hiU (by rw [zerD_len]; omega) hyn, zerD_set v hiD]
    have hset0 : (tabD n U (zerD D (i + 1))).set (U.getD i 0) 0 = tabD n U (zerD D i) := by
      rw [tabD_set hU hiU (by rw [zerD_len]; omega) hyn, zerD_succ hiD]
    have hgo := nextD_go (S := rs) (D := D) (j := i) hDl hiD hjn
    have hstop := nextD_stop (S := rs) (D := D) (j := i) hDl hiD hjn
    generalize tabD n U (zerD D (i + 1)) = T at htl hta hset hset0
    generalize U.getD i 0 = y at hyn hcr hta hset hset0
    generalize D.getD i 0 = d at hDi hta hgo hstop
    generalize rs.getD i 0 = s at hDi hri hsr hgo hstop
    have htg : ∀ v, (T.set y v).getD y default = v := fun v => by rw [List.getD_eq_getElem?_getD, List.getElem?_set_self (by omega)]; rfl
    have hrv : ∀ (v : Int) (W : World) (R : List Res) (r0 : Res), Rd W I (Vec 3 1 (some ⟨bt, 0, none⟩) n n ((T.set y v).map (Value.int .i64)) :: r0 :: R) ((ad (some ⟨bt, 0, none⟩)).add (y * 1)) (.int .i64 v) := fun v W R r0 => by
      have h := Rd.vecEl (W := W) (I := I) (R := Vec 3 1 (some ⟨bt, 0, none⟩) n n ((T.set y v).map (Value.int .i64)) :: r0 :: R) 0 (f := Value.int .i64) (l := T.set y v) (i := y) rfl (by rw [List.length_set]; omega)
      rw [htg] at h
      exact h
    have hrv1 : ∀ (W : World) (R : List Res) (r0 : Res), Rd W I (r0 :: Vec 3 1 (some ⟨bt, 0, none⟩) n n (T.map (Value.int .i64)) :: R) ((ad (some ⟨bt, 0, none⟩)).add (y * 1)) (.int .i64 d) := fun W R r0 => by
      have h := Rd.vecEl (W := W) (I := I) (R := r0 :: Vec 3 1 (some ⟨bt, 0, none⟩) n n (T.map (Value.int .i64)) :: R) 1 (f := Value.int .i64) (l := T) (i := y) rfl (by omega)
      rw [hta] at h
      exact h
    by_cases hlt : d + 1 < s
    · have hgo := hgo hlt
      repeat' first
        | ((with_reducible refine Nx.is_wp ?_); first | refine Nx.wo ?_ | refine Nx.p_draw (id := 6) rfl [0, 1, 2, 3, 4, 5, 6, 7, 8, 9, 10, 11, 12, 13, 14] [] _ rfl rfl (by kernel_rfl) (by kernel_rfl) rfl (by repeat first | exact PanicOk.fn | refine PanicOk.then_ ?_ | refine PanicOk.inB ?_) (Ent.refl _) ?_ | refine Nx.zp (fun hc => ?_) (fun hc => ?_))
        | (refine Nx.zo ?_; first | refine Nx.opr rfl rfl ?_ | refine Nx.indexAddr_nat (A := At) (i := i) (sz := 1) rfl rfl rfl rfl rfl (by omega) (hc.isSome (by omega)) ?_ | refine Nx.load rfl rfl rfl (hcr _ _) ?_ | refine Nx.indexAddr_nat (A := some ⟨bt, 0, none⟩) (i := y) (sz := 1) rfl rfl rfl rfl rfl hyn rfl ?_ | refine Nx.load rfl rfl rfl (hrv1 _ _ _) ?_ | refine Nx.store_ints 1 (A := some ⟨bt, 0, none⟩) (i := y) (l := T) rfl rfl rfl rfl (by omega) ?_ | refine Nx.so ?_ | refine Nx.sb (fun bx => ?_) | refine Nx.sa (fun A2 c2 => ?_))
        | ((with_reducible refine Nx.is_at ?_); first | refine Nx.a ?_ | refine Nx.zd ?_ | refine Nx.zs (fun hc => ?_) (fun hc => ?_))
        | ((with_reducible refine Nx.is_mix ?_); first | refine Nx.m_quiet rfl rfl rfl rfl rfl (by first | exact QRun.opr rfl | exact QRun.idx (A := some ⟨bt, 0, none⟩) (i := y) (sz := 1) rfl rfl rfl rfl hyn rfl | exact QRun.idx (A := As) (i := i) (sz := 1) rfl rfl rfl rfl (by omega) (hs.isSome (by omega)) | exact QRun.load rfl rfl (hrv _ _ _ _) | exact QRun.load rfl rfl (hsr _ _)) ?_ | refine Nx.m_quiet_do rfl rfl rfl rfl rfl rfl rfl (by first | exact QRun.opr rfl | exact QRun.idx (A := some ⟨bt, 0, none⟩) (i := y) (sz := 1) rfl rfl rfl rfl hyn rfl | exact QRun.idx (A := As) (i := i) (sz := 1) rfl rfl rfl rfl (by omega) (hs.isSome (by omega)) | exact QRun.load rfl rfl (hrv _ _ _ _) | exact QRun.load rfl rfl (hsr _ _)) ?_ | refine Nx.m ?_ | refine Nx.zm ?_ | refine Nx.zt (fun hc => ?_) (fun hc => ?_))
        | refine Nx.zx ?_ | fail
      exact Nx.ret_fn rfl [_, _] (.inl ⟨_, hgo, rfl, rfl⟩) (by rw [← hset]; (exact Ent.auto))
    · have hstop := hstop hlt
      have hss : ∀ v, (T.set y v).set y 0 = tabD n U (zerD D i) := fun v => by rw [List.set_set, hset0]
      repeat' first
        | ((with_reducible refine Nx.is_wp ?_); first | refine Nx.wo ?_ | refine Nx.p_draw (id := 6) rfl [0, 1, 2, 3, 4, 5, 6, 7, 8, 9, 10, 11, 12, 13, 14] [] _ rfl rfl (by kernel_rfl) (by kernel_rfl) rfl (by repeat first | exact PanicOk.fn | refine PanicOk.then_ ?_ | refine PanicOk.inB ?_) (Ent.refl _) ?_ | refine Nx.zp (fun hc => ?_) (fun hc => ?_))
        | (refine Nx.zo ?_; first | refine Nx.opr rfl rfl ?_ | refine Nx.indexAddr_nat (A := At) (i := i) (sz := 1) rfl rfl rfl rfl rfl (by omega) (hc.isSome (by omega)) ?_ | refine Nx.load rfl rfl rfl (hcr _ _) ?_ | refine Nx.indexAddr_nat (A := some ⟨bt, 0, none⟩) (i := y) (sz := 1) rfl rfl rfl rfl rfl hyn rfl ?_ | refine Nx.load rfl rfl rfl (hrv1 _ _ _) ?_ | refine Nx.store_ints 1 (A := some ⟨bt, 0, none⟩) (i := y) (l := T) rfl rfl rfl rfl (by omega) ?_ | refine Nx.store_ints 0 (A := some ⟨bt, 0, none⟩) (i := y) (l := T.set y (d + 1)) rfl rfl rfl rfl (by omega) ?_ | refine Nx.so ?_ | refine Nx.sb (fun bx => ?_) | refine Nx.sa (fun A2 c2 => ?_))
        | ((with_reducible refine Nx.is_at ?_); first | refine Nx.a ?_ | refine Nx.zd ?_ | refine Nx.zs (fun hc => ?_) (fun hc => ?_))
        | ((with_reducible refine Nx.is_mix ?_); first | refine Nx.m_quiet rfl rfl rfl rfl rfl (by first | exact QRun.opr rfl | exact QRun.idx (A := some ⟨bt, 0, none⟩) (i := y) (sz := 1) rfl rfl rfl rfl hyn rfl | exact QRun.idx (A := As) (i := i) (sz := 1) rfl rfl rfl rfl (by omega) (hs.isSome (by omega)) | exact QRun.load rfl rfl (hrv _ _ _ _) | exact QRun.load rfl rfl (hsr _ _)) ?_ | refine Nx.m_quiet_do rfl rfl rfl rfl rfl rfl rfl (by first | exact QRun.opr rfl | exact QRun.idx (A := some ⟨bt, 0, none⟩) (i := y) (sz := 1) rfl rfl rfl rfl hyn rfl | exact QRun.idx (A := As) (i := i) (sz := 1) rfl rfl rfl rfl (by omega) (hs.isSome (by omega)) | exact QRun.load rfl rfl (hrv _ _ _ _) | exact QRun.load rfl rfl (hsr _ _)) ?_ | refine Nx.m ?_ | refine Nx.zm ?_ | refine Nx.zt (fun hc => ?_) (fun hc => ?_))
        | refine Nx.zx ?_ | fail
      exact Nx.again i ⟨by omega, hstop⟩ (by omega) ⟨rfl, rfl, trivial⟩ (by rw [← hss (d + 1)]; (exact Ent.auto))
end Go.Proofs.YtcmdemfhbekabaaGreat
