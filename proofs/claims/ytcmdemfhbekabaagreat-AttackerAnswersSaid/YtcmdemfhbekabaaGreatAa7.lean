/- Contracts of functions of the given program, and lemmas about plain lists and numbers: what the laws of this seat lean on. -/
import Derived.Test.YtcmdemfhbekabaaGreatAa6
namespace Go.Proofs.YtcmdemfhbekabaaGreat
open Go.Eng Go.Sol
attribute [local irreducible] opK wpList Code.wp Exit.then Exit.inBlock fnPost bodyPost Nx Calls Oper.wp Rd Rds Wr Ent Stars Blk Again Vec FnSpec wpMix QRun Stop Upto wpAt
attribute [local irreducible] wpFork
/-! The cells that occur, as the reference finds them -/
theorem ins_map (o : List Int) (p : Int) (k : Nat) : (o.take k).map (Value.int .i64) ++ [Value.int .i64 p] ++ (o.drop k).map (Value.int .i64) = (o.take k ++ p :: o.drop k).map (Value.int .i64) := by simp
set_option maxRecDepth 10000 in
set_option maxHeartbeats 4000000 in
theorem touchIns (A1 : Option Addr) (c1 : Nat) (o : List Int) (p : Int) (v0 v11 v12 v13 v18 v19 v20 : Value) (I : PH) (hT : SliceOf (Value.int .i64) I A1 c1 o) (h9 : o.length ≤ 1000000) (k : Nat) (hk : k ≤ o.length) (w : World) (R : List Res) (Q : Exit → Act → World → Prop) (hQ : PanicOk Q)
    (h : ∀ A4 c4, Nx ⟨Tryz.prog, 74, w⟩ [(5, .slice A4 (o.take k ++ p :: o.drop k).length c4), (0, v0), (11, v11), (12, v12), (13, v13), (18, v18), (19, v19), (20, v20)] I (Vec 3 1 A4 (o.take k ++ p :: o.drop k).length c4 ((o.take k ++ p :: o.drop k).map (Value.int .i64)) :: R) (Q .normal)) :
    Nx ⟨Tryz.prog, 74, w⟩ [(5, .slice A1 o.length c1), (9, .int .i64 p), (10, .int .i64 (k : Int)), (0, v0), (11, v11), (12, v12), (13, v13), (18, v18), (19, v19), (20, v20)] I R
      (Code.wp Tryz.prog (cl (cr (cr (cr (cr (cl (cl (cr (cr (cl (cl (cr (cr (cl (cl (cr (cr (cl (cl (cr (cl (cr (cr (bodyOf Tryz.f19)))))))))))))))))))))))) Q) := by
  have hcap := hT.cap
  have hins := ins_map o p k
  have htk := hT.take k
  have htd := hT.drop hk
  refine Nx.p_fork (id := 12) rfl [1, 2, 3, 5, 8, 9, 10] [12] [0, 4, 6, 7, 11] [] 6 rfl rfl (by kernel_rfl) (by kernel_rfl) (by kernel_rfl) hQ (Ent.nil _) ?_
  repeat' first
    | ((with_reducible refine Nx.is_wp ?_); first | refine Nx.wo ?_ | refine Nx.zp (fun hc => ?_) (fun hc => ?_))
    | (refine Nx.zo ?_; first | refine Nx.opr rfl rfl ?_ | refine Nx.so ?_ | refine Nx.sb (fun bx => ?_) | refine Nx.sa (fun A2 c2 => ?_))
    | ((with_reducible refine Nx.is_at ?_); first | refine Nx.a ?_ | refine Nx.zd ?_ | refine Nx.zs (fun hc => ?_) (fun hc => ?_))
    | ((with_reducible refine Nx.is_mix ?_); first | refine Nx.m_quiet rfl rfl rfl rfl rfl (by first | exact QRun.opr rfl | exact QRun.slice_hi rfl rfl rfl rfl (by omega) | exact QRun.slice_lo rfl rfl rfl rfl (by omega)) ?_ | refine Nx.m_quiet_do rfl rfl rfl rfl rfl rfl rfl (by first | exact QRun.opr rfl | exact QRun.slice_hi rfl rfl rfl rfl (by omega) | exact QRun.slice_lo rfl rfl rfl rfl (by omega)) ?_ | refine Nx.m ?_ | refine Nx.zm ?_ | refine Nx.zt (fun hc => ?_) (fun hc => ?_))
    | refine Nx.zx ?_ | fail
  refine Nx.fork2 (i := 0) (j := 6) (by kernel_rfl) rfl rfl rfl rfl ?_ ?_
  · refine Nx.sb (fun b0 => ?_)
    refine Nx.mix_S (by (exact Ent.auto)) ?_
    refine Nx.fork2 (i := 4) (j := 6) (by kernel_rfl) rfl rfl rfl rfl ?_ ?_
    · refine Nx.blk_vec 0 0 1 rfl rfl (by omega) ?_
      refine Nx.append rfl rfl rfl rfl (by kernel_rfl) rfl (Src.arr htk.arr (by rw [List.length_map, List.length_take]; omega) (by omega) (fun u hu => by obtain ⟨_, _, rfl⟩ := List.mem_map.1 hu; rfl)) (by omega) fun A2 c2 => ?_
      rw [Nat.zero_add, List.nil_append]
      refine Nx.mix_S (by (exact Ent.auto)) ?_
      refine Nx.fork1 (i := 6) (by kernel_rfl) rfl rfl ?_
      refine Nx.sb (fun b6 => ?_)
      refine Nx.mix_S (by (exact Ent.auto)) ?_
      refine Nx.fork1 (i := 7) (by kernel_rfl) rfl rfl ?_
      refine Nx.ent (R' := [Blk b6 3 [.int .i64 p], Vec 3 1 A2 k c2 ((o.take k).map (Value.int .i64))] ++ R) (by (exact Ent.auto)) ?_
      refine Nx.append_lit 0 rfl rfl rfl rfl (by kernel_rfl) rfl rfl rfl rfl (by omega) fun A3 c3 => ?_
      refine Nx.mix_S (by (exact Ent.auto)) ?_
      refine Nx.fork1 (i := 11) (by kernel_rfl) rfl rfl ?_
      refine Nx.append rfl rfl rfl rfl (by kernel_rfl) rfl (Src.arr htd.arr (by rw [List.length_map, List.length_drop]; omega) (by omega) (fun u hu => by obtain ⟨_, _, rfl⟩ := List.mem_map.1 hu; rfl)) (by omega) fun A4 c4 => ?_
      refine Nx.mix_S (by (exact Ent.auto)) ?_
      refine Nx.fork_fin (by kernel_rfl) rfl ?_
      repeat' first
        | ((with_reducible refine Nx.is_wp ?_); first | refine Nx.wo ?_ | refine Nx.zp (fun hc => ?_) (fun hc => ?_))
        | (refine Nx.zo ?_; first | refine Nx.opr rfl rfl ?_ | refine Nx.so ?_ | refine Nx.sb (fun bx => ?_) | refine Nx.sa (fun A2 c2 => ?_))
        | ((with_reducible refine Nx.is_at ?_); first | refine Nx.a ?_ | refine Nx.zd ?_ | refine Nx.zs (fun hc => ?_) (fun hc => ?_))
        | ((with_reducible refine Nx.is_mix ?_); first | refine Nx.m ?_ | refine Nx.zm ?_ | refine Nx.zt (fun hc => ?_) (fun hc => ?_))
        | refine Nx.zx ?_ | fail
      rw [hins, show k + 1 + (o.length - k) = (o.take k ++ p :: o.drop k).length by rw [List.length_append, List.length_cons, List.length_take, List.length_drop]; omega]
      refine Nx.weak ?_ ?_ (h A4 c4)
      · exact ⟨rfl, rfl, rfl, rfl, rfl, rfl, rfl, rfl, trivial⟩
      · (exact Ent.auto)
    · refine Nx.sb (fun b6 => ?_)
      refine Nx.mix_S (by (exact Ent.auto)) ?_
      refine Nx.fork1 (i := 4) (by kernel_rfl) rfl rfl ?_
      refine Nx.blk_vec 1 0 1 rfl rfl (by omega) ?_
      refine Nx.append rfl rfl rfl rfl (by kernel_rfl) rfl (Src.arr htk.arr (by rw [List.length_map, List.length_take]; omega) (by omega) (fun u hu => by obtain ⟨_, _, rfl⟩ := List.mem_map.1 hu; rfl)) (by omega) fun A2 c2 => ?_
      rw [Nat.zero_add, List.nil_append]
      refine Nx.mix_S (by (exact Ent.auto)) ?_
      refine Nx.fork1 (i := 7) (by kernel_rfl) rfl rfl ?_
      refine Nx.ent (R' := [Blk b6 3 [.int .i64 p], Vec 3 1 A2 k c2 ((o.take k).map (Value.int .i64))] ++ R) (by (exact Ent.auto)) ?_
      refine Nx.append_lit 0 rfl rfl rfl rfl (by kernel_rfl) rfl rfl rfl rfl (by omega) fun A3 c3 => ?_
      refine Nx.mix_S (by (exact Ent.auto)) ?_
      refine Nx.fork1 (i := 11) (by kernel_rfl) rfl rfl ?_
      refine Nx.append rfl rfl rfl rfl (by kernel_rfl) rfl (Src.arr htd.arr (by rw [List.length_map, List.length_drop]; omega) (by omega) (fun u hu => by obtain ⟨_, _, rfl⟩ := List.mem_map.1 hu; rfl)) (by omega) fun A4 c4 => ?_
      refine Nx.mix_S (by (exact Ent.auto)) ?_
      refine Nx.fork_fin (by kernel_rfl) rfl ?_
      repeat' first
        | ((with_reducible refine Nx.is_wp ?_); first | refine Nx.wo ?_ | refine Nx.zp (fun hc => ?_) (fun hc => ?_))
        | (refine Nx.zo ?_; first | refine Nx.opr rfl rfl ?_ | refine Nx.so ?_ | refine Nx.sb (fun bx => ?_) | refine Nx.sa (fun A2 c2 => ?_))
        | ((with_reducible refine Nx.is_at ?_); first | refine Nx.a ?_ | refine Nx.zd ?_ | refine Nx.zs (fun hc => ?_) (fun hc => ?_))
        | ((with_reducible refine Nx.is_mix ?_); first | refine Nx.m ?_ | refine Nx.zm ?_ | refine Nx.zt (fun hc => ?_) (fun hc => ?_))
        | refine Nx.zx ?_ | fail
      rw [hins, show k + 1 + (o.length - k) = (o.take k ++ p :: o.drop k).length by rw [List.length_append, List.length_cons, List.length_take, List.length_drop]; omega]
      refine Nx.weak ?_ ?_ (h A4 c4)
      · exact ⟨rfl, rfl, rfl, rfl, rfl, rfl, rfl, rfl, trivial⟩
      · (exact Ent.auto)
  · refine Nx.sb (fun b6 => ?_)
    refine Nx.mix_S (by (exact Ent.auto)) ?_
    refine Nx.fork1 (i := 0) (by kernel_rfl) rfl rfl ?_
    refine Nx.sb (fun b0 => ?_)
    refine Nx.mix_S (by (exact Ent.auto)) ?_
    refine Nx.fork1 (i := 4) (by kernel_rfl) rfl rfl ?_
    refine Nx.blk_vec 0 0 1 rfl rfl (by omega) ?_
    refine Nx.append rfl rfl rfl rfl (by kernel_rfl) rfl (Src.arr htk.arr (by rw [List.length_map, List.length_take]; omega) (by omega) (fun u hu => by obtain ⟨_, _, rfl⟩ := List.mem_map.1 hu; rfl)) (by omega) fun A2 c2 => ?_
    rw [Nat.zero_add, List.nil_append]
    refine Nx.mix_S (by (exact Ent.auto)) ?_
    refine Nx.fork1 (i := 7) (by kernel_rfl) rfl rfl ?_
    refine Nx.ent (R' := [Blk b6 3 [.int .i64 p], Vec 3 1 A2 k c2 ((o.take k).map (Value.int .i64))] ++ R) (by (exact Ent.auto)) ?_
    refine Nx.append_lit 0 rfl rfl rfl rfl (by kernel_rfl) rfl rfl rfl rfl (by omega) fun A3 c3 => ?_
    refine Nx.mix_S (by (exact Ent.auto)) ?_
    refine Nx.fork1 (i := 11) (by kernel_rfl) rfl rfl ?_
    refine Nx.append rfl rfl rfl rfl (by kernel_rfl) rfl (Src.arr htd.arr (by rw [List.length_map, List.length_drop]; omega) (by omega) (fun u hu => by obtain ⟨_, _, rfl⟩ := List.mem_map.1 hu; rfl)) (by omega) fun A4 c4 => ?_
    refine Nx.mix_S (by (exact Ent.auto)) ?_
    refine Nx.fork_fin (by kernel_rfl) rfl ?_
    repeat' first
      | ((with_reducible refine Nx.is_wp ?_); first | refine Nx.wo ?_ | refine Nx.zp (fun hc => ?_) (fun hc => ?_))
      | (refine Nx.zo ?_; first | refine Nx.opr rfl rfl ?_ | refine Nx.so ?_ | refine Nx.sb (fun bx => ?_) | refine Nx.sa (fun A2 c2 => ?_))
      | ((with_reducible refine Nx.is_at ?_); first | refine Nx.a ?_ | refine Nx.zd ?_ | refine Nx.zs (fun hc => ?_) (fun hc => ?_))
      | ((with_reducible refine Nx.is_mix ?_); first | refine Nx.m ?_ | refine Nx.zm ?_ | refine Nx.zt (fun hc => ?_) (fun hc => ?_))
      | refine Nx.zx ?_ | fail
    rw [hins, show k + 1 + (o.length - k) = (o.take k ++ p :: o.drop k).length by rw [List.length_append, List.length_cons, List.length_take, List.length_drop]; omega]
    refine Nx.weak ?_ ?_ (h A4 c4)
    · exact ⟨rfl, rfl, rfl, rfl, rfl, rfl, rfl, rfl, trivial⟩
    · (exact Ent.auto)
theorem asc_drop {o : List Int} (h : o.Pairwise (· < ·)) {i : Nat} {x : Int} (h2 : i < o.length → ¬ o.getD i default < x) : ∀ y ∈ o.drop i, x ≤ y := by
  intro y hy
  obtain ⟨j, hj, rfl⟩ := List.mem_iff_getElem.1 hy
  rw [List.length_drop] at hj
  rw [List.getElem_drop]
  have h3 := h2 (by omega)
  rw [List.getD_eq_getElem?_getD, List.getElem?_eq_getElem (by omega)] at h3
  change ¬ o[i] < x at h3
  rcases Nat.eq_zero_or_pos j with rfl | hj0
  · show x ≤ o[i]; omega
  · have := List.pairwise_iff_getElem.1 h i (i + j) (by omega) (by omega) (by omega)
    omega
theorem asc_take {o : List Int} {i : Nat} {x : Int} (hi : i ≤ o.length) (h1 : ∀ m, m < i → o.getD m default < x) : ∀ y ∈ o.take i, y < x := by
  intro y hy
  obtain ⟨j, hj, rfl⟩ := List.mem_iff_getElem.1 hy
  rw [List.length_take] at hj
  rw [List.getElem_take]
  have h3 := h1 j (by omega)
  rw [List.getD_eq_getElem?_getD, List.getElem?_eq_getElem (by omega)] at h3
  exact h3
theorem asc_has {o : List Int} (h : o.Pairwise (· < ·)) {i : Nat} {x : Int} (hi : i ≤ o.length) (h1 : ∀ m, m < i → o.getD m default < x) (h2 : i < o.length → ¬ o.getD i default < x) : x ∈ o ↔ i < o.length ∧ o.getD i default = x := by
  constructor
  · intro hx
    rw [← List.take_append_drop i o, List.mem_append] at hx
    rcases hx with hx | hx
    · have := asc_take hi h1 x hx; omega
    · obtain ⟨j, hj, he⟩ := List.mem_iff_getElem.1 hx
      rw [List.length_drop] at hj
      have hlt : i < o.length := by omega
      have h3 := asc_drop h h2 o[i] (by rw [List.drop_eq_getElem_cons hlt]; exact List.mem_cons_self)
      rw [List.getElem_drop] at he
      have h4 : o[i] ≤ x := by
        rcases Nat.eq_zero_or_pos j with rfl | hj0
        · rw [← he]; exact Int.le_refl _
        · have := List.pairwise_iff_getElem.1 h i (i + j) (by omega) (by omega) (by omega)
          omega
      refine ⟨hlt, ?_⟩
      rw [List.getD_eq_getElem?_getD, List.getElem?_eq_getElem hlt]
      show o[i] = x
      omega
  · rintro ⟨hl, rfl⟩
    exact getD_memI hl
theorem asc_ins {o : List Int} (h : o.Pairwise (· < ·)) {i : Nat} {x : Int} (hi : i ≤ o.length) (h1 : ∀ m, m < i → o.getD m default < x) (h2 : i < o.length → ¬ o.getD i default < x) (hx : x ∉ o) : (o.take i ++ x :: o.drop i).Pairwise (· < ·) := by
  have ht := asc_take hi h1
  have hd := asc_drop h h2
  rw [← List.take_append_drop i o, List.pairwise_append] at h
  have hd2 : ∀ y ∈ o.drop i, x < y := fun y hy => by
    have := hd y hy
    have : x ≠ y := fun he => hx (he ▸ List.mem_of_mem_drop hy)
    omega
  refine List.pairwise_append.2 ⟨h.1, List.pairwise_cons.2 ⟨hd2, h.2.1⟩, fun a ha b hb => ?_⟩
  rcases List.mem_cons.1 hb with rfl | hb
  · exact ht a ha
  · have := ht a ha; have := hd2 b hb; omega
theorem mem_ins {o : List Int} {i : Nat} {x y : Int} : y ∈ o.take i ++ x :: o.drop i ↔ y ∈ o ∨ y = x := by
  constructor
  · intro h
    rcases List.mem_append.1 h with h | h
    · exact .inl (List.mem_of_mem_take h)
    · rcases List.mem_cons.1 h with h | h
      · exact .inr h
      · exact .inl (List.mem_of_mem_drop h)
  · rintro (h | h)
    · rw [← List.take_append_drop i o, List.mem_append] at h
      rcases h with h | h
      · exact List.mem_append.2 (.inl h)
      · exact List.mem_append.2 (.inr (List.mem_cons_of_mem _ h))
    · exact List.mem_append.2 (.inr (by rw [h]; exact List.mem_cons_self))
theorem set_ins {o r : List Int} (hs : IsSet o (· ∈ r)) {i : Nat} {x : Int} (hi : i ≤ o.length) (h1 : ∀ m, m < i → o.getD m default < x) (h2 : i < o.length → ¬ o.getD i default < x) (hx : x ∉ o) : IsSet (o.take i ++ x :: o.drop i) (· ∈ r ++ [x]) :=
  ⟨asc_ins hs.asc hi h1 h2 hx, fun y => by rw [mem_ins, hs.mem y, List.mem_append, List.mem_singleton]⟩
theorem set_has {o r : List Int} (hs : IsSet o (· ∈ r)) {x : Int} (hx : x ∈ o) : IsSet o (· ∈ r ++ [x]) :=
  ⟨hs.asc, fun y => by
    rw [hs.mem y, List.mem_append, List.mem_singleton]
    exact ⟨.inl, fun h => h.elim id fun h => by rw [h]; exact (hs.mem x).1 hx⟩⟩
theorem ins_len {o : List Int} {i : Nat} {x : Int} (hi : i ≤ o.length) : (o.take i ++ x :: o.drop i).length = o.length + 1 := by
  rw [List.length_append, List.length_cons, List.length_take, List.length_drop]; omega
set_option maxRecDepth 10000 in
set_option maxHeartbeats 8000000 in
theorem RTouched_spec (A : Option Addr) (c : Nat) (l : List EqR) (n : Nat) (I : PH) (hl : Eqs I A c l) (hg : ∀ q ∈ l, GoodE n q) (h9 : (allC l).length ≤ 100000) :
    FnSpec Tryz.prog 19 [.int .i64 (n : Int), .slice A l.length c] I [] (fun v R' => ∃ A' c', v = .slice A' (touch n (eqns l)).length c' ∧ R' = [iR A' c' ((touch n (eqns l)).map Int.ofNat)]) := by
  have hlen := hl.len
  have hset : ∀ o : List Int, IsSet o (· ∈ allC l) → o = (touch n (eqns l)).map Int.ofNat := fun o ho => by rw [← touch_set hg]; exact ho.same (set_of _) fun _ => Iff.rfl
  refine FnSpec.enterP Tryz.func19 rfl Tryz.ntmps19 rfl fun w F => ?_
  repeat' first
    | ((with_reducible refine Nx.is_wp ?_); first | refine Nx.wo ?_ | refine Nx.zp (fun hc => ?_) (fun hc => ?_))
    | (refine Nx.zo ?_; first | refine Nx.opr rfl rfl ?_ | refine Nx.so ?_ | refine Nx.sb (fun bx => ?_) | refine Nx.sa (fun A2 c2 => ?_))
    | ((with_reducible refine Nx.is_at ?_); first | refine Nx.a ?_ | refine Nx.zd ?_ | refine Nx.zs (fun hc => ?_) (fun hc => ?_))
    | ((with_reducible refine Nx.is_mix ?_); first | refine Nx.m ?_ | refine Nx.zm ?_ | refine Nx.zt (fun hc => ?_) (fun hc => ?_))
    | refine Nx.zx ?_ | fail
  refine Nx.p_loop (σ := Nat × Option Addr × Nat × List Int) (fun s => [(0, .int .i64 (n : Int)), (5, .slice s.2.1 s.2.2.2.length s.2.2.1), (11, .slice A l.length c), (12, .int .i64 l.length), (13, .int .i64 (s.1 : Int))])
    (fun s => [iR s.2.1 s.2.2.1 s.2.2.2, F]) (fun s => s.1 ≤ l.length ∧ IsSet s.2.2.2 (· ∈ allC (l.take s.1)) ∧ s.2.2.2.length ≤ (allC (l.take s.1)).length) (fun s => l.length - s.1) (0, none, 0, []) rfl ⟨Nat.zero_le _, ⟨List.Pairwise.nil, fun x => by simp [allC]⟩, Nat.le_refl _⟩ ⟨rfl, rfl, rfl, rfl, rfl, trivial⟩ ((Ent.vec_nil 3 1 _).trans (by (exact Ent.auto))) ?_
  rintro ⟨k, A1, c1, o⟩ ⟨hk, hos, hol⟩
  dsimp only at hk hos hol ⊢
  by_cases hlt : k < l.length
  case neg =>
    obtain rfl : k = l.length := by omega
    rw [List.take_length] at hos
    have he := hset o hos
    have hle : (touch n (eqns l)).length = o.length := by rw [he, List.length_map]
    repeat' first
      | ((with_reducible refine Nx.is_wp ?_); first | refine Nx.wo ?_ | refine Nx.zp (fun hc => ?_) (fun hc => ?_))
      | (refine Nx.zo ?_; first | refine Nx.opr rfl rfl ?_ | refine Nx.so ?_ | refine Nx.sb (fun bx => ?_) | refine Nx.sa (fun A2 c2 => ?_))
      | ((with_reducible refine Nx.is_at ?_); first | refine Nx.a ?_ | refine Nx.zd ?_ | refine Nx.zs (fun hc => ?_) (fun hc => ?_))
      | ((with_reducible refine Nx.is_mix ?_); first | refine Nx.m ?_ | refine Nx.zm ?_ | refine Nx.zt (fun hc => ?_) (fun hc => ?_))
      | refine Nx.zx ?_ | fail
    exact Nx.ret_fn rfl [_] ⟨A1, c1, by rw [hle], by rw [← he]⟩ (by (exact Ent.auto))
  have hsn := allC_snoc hlt
  have hle1 := allC_le1 hlt
  have hq := hl.inner _ (getD_memQ hlt)
  have hgq := (hg _ (getD_memQ hlt)).lt
  have hrds : ∀ (W : World) (R : List Res), Rds W I R ((ad A).add (k * 2)) (eqC (l.getD k default)) := fun W R => hl.outer.rds hlt
  generalize l.getD k default = q at hsn hle1 hq hgq hrds
  obtain ⟨⟨Ax, cx, xs⟩, z⟩ := q
  dsimp only at hsn hle1 hq hgq
  replace hrds : ∀ (W : World) (R : List Res), Rds W I R ((ad A).add (k * 2)) [.slice Ax xs.length cx, .int .i64 z] := hrds
  have hxl := hq.len
  repeat' first
    | ((with_reducible refine Nx.is_wp ?_); first | refine Nx.wo ?_ | refine Nx.zp (fun hc => ?_) (fun hc => ?_))
    | (refine Nx.zo ?_; first | refine Nx.opr rfl rfl ?_ | refine Nx.indexAddr_nat rfl rfl rfl rfl rfl (by omega) (hl.outer.isSome (by omega) (by omega)) ?_ | refine Nx.loads rfl rfl rfl rfl (hrds _ _) rfl ?_ | refine Nx.so ?_ | refine Nx.sb (fun bx => ?_) | refine Nx.sa (fun A2 c2 => ?_))
    | ((with_reducible refine Nx.is_at ?_); first | refine Nx.a ?_ | refine Nx.zd ?_ | refine Nx.zs (fun hc => ?_) (fun hc => ?_))
    | ((with_reducible refine Nx.is_mix ?_); first | refine Nx.m ?_ | refine Nx.zm ?_ | refine Nx.zt (fun hc => ?_) (fun hc => ?_))
    | refine Nx.zx ?_ | fail
  generalize allC (l.take k) = pre at hos hol hsn hle1
  refine Nx.p_loop (σ := Nat × Option Addr × Nat × List Int) (fun s => [(0, .int .i64 (n : Int)), (5, .slice s.2.1 s.2.2.2.length s.2.2.1), (11, .slice A l.length c), (12, .int .i64 l.length), (13, .int .i64 (k : Int)), (18, .slice Ax xs.length cx), (19, .int .i64 xs.length), (20, .int .i64 (s.1 : Int))])
    (fun s => [iR s.2.1 s.2.2.1 s.2.2.2, F]) (fun s => s.1 ≤ xs.length ∧ IsSet s.2.2.2 (· ∈ pre ++ xs.take s.1) ∧ s.2.2.2.length ≤ pre.length + s.1) (fun s => xs.length - s.1) (0, A1, c1, o) rfl ⟨Nat.zero_le _, by simpa using hos, hol⟩ ⟨rfl, rfl, rfl, rfl, rfl, rfl, rfl, rfl, trivial⟩ (by (exact Ent.auto)) ?_
  rintro ⟨j, A2, c2, o2⟩ ⟨hj, hos2, hol2⟩
  dsimp only at hj hos2 hol2 ⊢
  by_cases hjl : j < xs.length
  case neg =>
    obtain rfl : j = xs.length := by omega
    rw [List.take_length] at hos2
    repeat' first
      | ((with_reducible refine Nx.is_wp ?_); first | refine Nx.wo ?_ | refine Nx.zp (fun hc => ?_) (fun hc => ?_))
      | (refine Nx.zo ?_; first | refine Nx.opr rfl rfl ?_ | refine Nx.so ?_ | refine Nx.sb (fun bx => ?_) | refine Nx.sa (fun A2 c2 => ?_))
      | ((with_reducible refine Nx.is_at ?_); first | refine Nx.a ?_ | refine Nx.zd ?_ | refine Nx.zs (fun hc => ?_) (fun hc => ?_))
      | ((with_reducible refine Nx.is_mix ?_); first | refine Nx.m ?_ | refine Nx.zm ?_ | refine Nx.zt (fun hc => ?_) (fun hc => ?_))
      | refine Nx.zx ?_ | fail
    exact Nx.again (k + 1, A2, c2, o2) ⟨hlt, by dsimp only; rw [hsn]; exact hos2, by dsimp only; rw [hsn, List.length_append]; exact hol2⟩ (by dsimp only; omega) ⟨rfl, rfl, rfl, rfl, rfl, trivial⟩ (by (exact Ent.auto))
  have htk := take_snocJ hjl
  have hx2 := hgq _ (getD_memI hjl)
  have hrd : ∀ (W : World) (R : List Res), Rd W I R ((ad Ax).add (j * 1)) (.int .i64 (xs.getD j default)) := fun W R => hq.rd hjl
  generalize xs.getD j default = x at htk hx2 hrd
  have hst1 : x ∈ o2 → IsSet o2 (· ∈ pre ++ xs.take (j + 1)) := fun h => by rw [htk, ← List.append_assoc]; exact set_has hos2 h
  repeat' first
    | ((with_reducible refine Nx.is_wp ?_); first | refine Nx.p_stopb 4 rfl ?_ | refine Nx.wo ?_ | refine Nx.zp (fun hc => ?_) (fun hc => ?_))
    | (refine Nx.zo ?_; first | refine Nx.opr rfl rfl ?_ | refine Nx.indexAddr_nat rfl rfl rfl rfl rfl (by omega) (hq.isSome (by omega)) ?_ | refine Nx.load rfl rfl rfl (hrd _ _) ?_ | refine Nx.so ?_ | refine Nx.sb (fun bx => ?_) | refine Nx.sa (fun A2 c2 => ?_))
    | ((with_reducible refine Nx.is_at ?_); first | refine Nx.a ?_ | refine Nx.zd ?_ | refine Nx.zs (fun hc => ?_) (fun hc => ?_))
    | ((with_reducible refine Nx.is_mix ?_); first | refine Nx.m ?_ | refine Nx.zm ?_ | refine Nx.zt (fun hc => ?_) (fun hc => ?_))
    | refine Nx.zx ?_ | fail
  refine Nx.vec_fact fun hv1 hv2 hv3 hA2 => ?_
  refine Nx.p_merge (σ := Nat) (fun i => [(0, .int .i64 (n : Int)), (5, .slice A2 o2.length c2), (11, .slice A l.length c), (12, .int .i64 l.length), (13, .int .i64 (k : Int)), (18, .slice Ax xs.length cx), (19, .int .i64 xs.length), (20, .int .i64 (j : Int)), (9, .int .i64 x), (10, .int .i64 (i : Int))])
    (fun _ => [iR A2 c2 o2, F]) (fun i => i ≤ o2.length ∧ (∀ m, m < i → o2.getD m default < x) ∧ (i < o2.length → ¬ o2.getD i default < x)) rfl ?_ ?_
  · repeat' first
      | ((with_reducible refine Nx.is_wp ?_); first | refine Nx.wo ?_ | refine Nx.zp (fun hc => ?_) (fun hc => ?_))
      | (refine Nx.zo ?_; first | refine Nx.opr rfl rfl ?_ | refine Nx.so ?_ | refine Nx.sb (fun bx => ?_) | refine Nx.sa (fun A2 c2 => ?_))
      | ((with_reducible refine Nx.is_at ?_); first | refine Nx.a ?_ | refine Nx.zd ?_ | refine Nx.zs (fun hc => ?_) (fun hc => ?_))
      | ((with_reducible refine Nx.is_mix ?_); first | refine Nx.m ?_ | refine Nx.zm ?_ | refine Nx.zt (fun hc => ?_) (fun hc => ?_))
      | refine Nx.zx ?_ | fail
    refine Nx.p_loop (σ := Nat) (fun i => [(0, .int .i64 (n : Int)), (5, .slice A2 o2.length c2), (11, .slice A l.length c), (12, .int .i64 l.length), (13, .int .i64 (k : Int)), (18, .slice Ax xs.length cx), (19, .int .i64 xs.length), (20, .int .i64 (j : Int)), (9, .int .i64 x), (10, .int .i64 (i : Int))])
      (fun _ => [iR A2 c2 o2, F]) (fun i => i ≤ o2.length ∧ ∀ m, m < i → o2.getD m default < x) (fun i => o2.length - i) 0 rfl ⟨Nat.zero_le _, fun i hi => absurd hi (Nat.not_lt_zero _)⟩ ⟨rfl, rfl, rfl, rfl, rfl, rfl, rfl, rfl, rfl, rfl, trivial⟩ (by (exact Ent.auto)) ?_
    rintro i ⟨hi, hall⟩
    by_cases hgo : i < o2.length ∧ o2.getD i default < x
    · have hgo1 := hgo.1
      have hgo2 := hgo.2
      repeat' first
        | ((with_reducible refine Nx.is_wp ?_); first | refine Nx.wo ?_ | refine Nx.zp (fun hc => ?_) (fun hc => ?_))
        | (refine Nx.zo ?_; first | refine Nx.opr rfl rfl ?_ | refine Nx.indexAddr_nat rfl rfl rfl rfl rfl (by omega) (hA2 (by omega)) ?_ | refine Nx.load rfl rfl rfl (Rd.vecEl 0 rfl (by omega)) ?_ | refine Nx.so ?_ | refine Nx.sb (fun bx => ?_) | refine Nx.sa (fun A2 c2 => ?_))
        | ((with_reducible refine Nx.is_at ?_); first | refine Nx.a ?_ | refine Nx.zd ?_ | refine Nx.zs (fun hc => ?_) (fun hc => ?_))
        | ((with_reducible refine Nx.is_mix ?_); first | refine Nx.m ?_ | refine Nx.zm ?_ | refine Nx.zt (fun hc => ?_) (fun hc => ?_))
        | refine Nx.zx ?_ | fail
      refine Nx.again (i + 1) ⟨hgo1, fun m hm => ?_⟩ (by omega) ⟨rfl, rfl, rfl, rfl, rfl, rfl, rfl, rfl, rfl, rfl, trivial⟩ (by (exact Ent.auto))
      by_cases him : m = i
      · rw [him]; exact hgo.2
      · exact hall m (by omega)
    · by_cases hlt2 : i < o2.length
      · have hgo2 : ¬ o2.getD i default < x := fun hb => hgo ⟨hlt2, hb⟩
        repeat' first
          | ((with_reducible refine Nx.is_wp ?_); first | refine Nx.wo ?_ | refine Nx.zp (fun hc => ?_) (fun hc => ?_))
          | (refine Nx.zo ?_; first | refine Nx.opr rfl rfl ?_ | refine Nx.indexAddr_nat rfl rfl rfl rfl rfl (by omega) (hA2 (by omega)) ?_ | refine Nx.load rfl rfl rfl (Rd.vecEl 0 rfl (by omega)) ?_ | refine Nx.so ?_ | refine Nx.sb (fun bx => ?_) | refine Nx.sa (fun A2 c2 => ?_))
          | ((with_reducible refine Nx.is_at ?_); first | refine Nx.a ?_ | refine Nx.zd ?_ | refine Nx.zs (fun hc => ?_) (fun hc => ?_))
          | ((with_reducible refine Nx.is_mix ?_); first | refine Nx.m ?_ | refine Nx.zm ?_ | refine Nx.zt (fun hc => ?_) (fun hc => ?_))
          | refine Nx.zx ?_ | fail
        exact Nx.upto i ⟨hi, hall, fun _ => hgo2⟩ ⟨rfl, rfl, rfl, rfl, rfl, rfl, rfl, rfl, rfl, rfl, trivial⟩ (by (exact Ent.auto))
      · repeat' first
          | ((with_reducible refine Nx.is_wp ?_); first | refine Nx.wo ?_ | refine Nx.zp (fun hc => ?_) (fun hc => ?_))
          | (refine Nx.zo ?_; first | refine Nx.opr rfl rfl ?_ | refine Nx.so ?_ | refine Nx.sb (fun bx => ?_) | refine Nx.sa (fun A2 c2 => ?_))
          | ((with_reducible refine Nx.is_at ?_); first | refine Nx.a ?_ | refine Nx.zd ?_ | refine Nx.zs (fun hc => ?_) (fun hc => ?_))
          | ((with_reducible refine Nx.is_mix ?_); first | refine Nx.m ?_ | refine Nx.zm ?_ | refine Nx.zt (fun hc => ?_) (fun hc => ?_))
          | refine Nx.zx ?_ | fail
        exact Nx.upto i ⟨hi, hall, fun h => absurd h hlt2⟩ ⟨rfl, rfl, rfl, rfl, rfl, rfl, rfl, rfl, rfl, rfl, trivial⟩ (by (exact Ent.auto))
  rintro i ⟨hi, hall, hnot⟩
  have hmem := asc_has hos2.asc hi hall hnot
  by_cases hin : x ∈ o2
  · obtain ⟨hil, heq⟩ := hmem.1 hin
    repeat' first
      | ((with_reducible refine Nx.is_wp ?_); first | refine Nx.wo ?_ | refine Nx.zp (fun hc => ?_) (fun hc => ?_))
      | (refine Nx.zo ?_; first | refine Nx.opr rfl rfl ?_ | refine Nx.indexAddr_nat rfl rfl rfl rfl rfl (by omega) (hA2 (by omega)) ?_ | refine Nx.load rfl rfl rfl (Rd.vecEl 0 rfl (by omega)) ?_ | refine Nx.so ?_ | refine Nx.sb (fun bx => ?_) | refine Nx.sa (fun A2 c2 => ?_))
      | ((with_reducible refine Nx.is_at ?_); first | refine Nx.a ?_ | refine Nx.zd ?_ | refine Nx.zs (fun hc => ?_) (fun hc => ?_))
      | ((with_reducible refine Nx.is_mix ?_); first | refine Nx.m ?_ | refine Nx.zm ?_ | refine Nx.zt (fun hc => ?_) (fun hc => ?_))
      | refine Nx.zx ?_ | fail
    exact Nx.again (j + 1, A2, c2, o2) ⟨hjl, hst1 hin, by dsimp only; omega⟩ (by dsimp only; omega) ⟨rfl, rfl, rfl, rfl, rfl, rfl, rfl, rfl, trivial⟩ (by (exact Ent.auto))
  have hins : IsSet (o2.take i ++ x :: o2.drop i) (· ∈ pre ++ xs.take (j + 1)) := by rw [htk, ← List.append_assoc]; exact set_ins hos2 hi hall hnot hin
  have hil2 := ins_len (x := x) hi
  by_cases hil : i < o2.length
  · have hne : ¬ o2.getD i default = x := fun h => hin (hmem.2 ⟨hil, h⟩)
    repeat' first
      | ((with_reducible refine Nx.is_wp ?_); first | refine Nx.p_stopr 12 rfl ?_ | refine Nx.wo ?_ | refine Nx.zp (fun hc => ?_) (fun hc => ?_))
      | (refine Nx.zo ?_; first | refine Nx.opr rfl rfl ?_ | refine Nx.indexAddr_nat rfl rfl rfl rfl rfl (by omega) (hA2 (by omega)) ?_ | refine Nx.load rfl rfl rfl (Rd.vecEl 0 rfl (by omega)) ?_ | refine Nx.so ?_ | refine Nx.sb (fun bx => ?_) | refine Nx.sa (fun A2 c2 => ?_))
      | ((with_reducible refine Nx.is_at ?_); first | refine Nx.a ?_ | refine Nx.zd ?_ | refine Nx.zs (fun hc => ?_) (fun hc => ?_))
      | ((with_reducible refine Nx.is_mix ?_); first | refine Nx.m ?_ | refine Nx.zm ?_ | refine Nx.zt (fun hc => ?_) (fun hc => ?_))
      | refine Nx.zx ?_ | fail
    (refine Nx.freezeAt 0 rfl fun I2 m2 hI2 hm2 h2 => ?_
     have hT2 : SliceOf (Value.int .i64) I2 A2 c2 o2 := Vec.sliceOf hm2 h2
     refine Nx.weak ?_ ?_ (touchIns A2 c2 o2 x (.int .i64 (n : Int)) (.slice A l.length c) (.int .i64 l.length) (.int .i64 (k : Int)) (.slice Ax xs.length cx) (.int .i64 xs.length) (.int .i64 (j : Int)) I2 hT2 (by omega) i hi w [F] _ (by repeat first | exact PanicOk.fn | refine PanicOk.then_ ?_ | refine PanicOk.inB ?_) fun A4 c4 => ?_)
     · exact ⟨rfl, rfl, rfl, rfl, rfl, rfl, rfl, rfl, rfl, rfl, trivial⟩
     · (exact Ent.auto)
     · repeat' first
         | ((with_reducible refine Nx.is_wp ?_); first | refine Nx.wo ?_ | refine Nx.zp (fun hc => ?_) (fun hc => ?_))
         | (refine Nx.zo ?_; first | refine Nx.opr rfl rfl ?_ | refine Nx.so ?_ | refine Nx.sb (fun bx => ?_) | refine Nx.sa (fun A2 c2 => ?_))
         | ((with_reducible refine Nx.is_at ?_); first | refine Nx.a ?_ | refine Nx.zd ?_ | refine Nx.zs (fun hc => ?_) (fun hc => ?_))
         | ((with_reducible refine Nx.is_mix ?_); first | refine Nx.m ?_ | refine Nx.zm ?_ | refine Nx.zt (fun hc => ?_) (fun hc => ?_))
         | refine Nx.zx ?_ | fail
       exact Nx.imm_le hI2 (Nx.again (j + 1, A4, c4, o2.take i ++ x :: o2.drop i) ⟨hjl, hins, by dsimp only; omega⟩ (by dsimp only; omega) ⟨rfl, rfl, rfl, rfl, rfl, rfl, rfl, rfl, trivial⟩ (by (exact Ent.auto))))
  · repeat' first
      | ((with_reducible refine Nx.is_wp ?_); first | refine Nx.p_stopr 12 rfl ?_ | refine Nx.wo ?_ | refine Nx.zp (fun hc => ?_) (fun hc => ?_))
      | (refine Nx.zo ?_; first | refine Nx.opr rfl rfl ?_ | refine Nx.so ?_ | refine Nx.sb (fun bx => ?_) | refine Nx.sa (fun A2 c2 => ?_))
      | ((with_reducible refine Nx.is_at ?_); first | refine Nx.a ?_ | refine Nx.zd ?_ | refine Nx.zs (fun hc => ?_) (fun hc => ?_))
      | ((with_reducible refine Nx.is_mix ?_); first | refine Nx.m ?_ | refine Nx.zm ?_ | refine Nx.zt (fun hc => ?_) (fun hc => ?_))
      | refine Nx.zx ?_ | fail
    (refine Nx.freezeAt 0 rfl fun I2 m2 hI2 hm2 h2 => ?_
     have hT2 : SliceOf (Value.int .i64) I2 A2 c2 o2 := Vec.sliceOf hm2 h2
     refine Nx.weak ?_ ?_ (touchIns A2 c2 o2 x (.int .i64 (n : Int)) (.slice A l.length c) (.int .i64 l.length) (.int .i64 (k : Int)) (.slice Ax xs.length cx) (.int .i64 xs.length) (.int .i64 (j : Int)) I2 hT2 (by omega) i hi w [F] _ (by repeat first | exact PanicOk.fn | refine PanicOk.then_ ?_ | refine PanicOk.inB ?_) fun A4 c4 => ?_)
     · exact ⟨rfl, rfl, rfl, rfl, rfl, rfl, rfl, rfl, rfl, rfl, trivial⟩
     · (exact Ent.auto)
     · repeat' first
         | ((with_reducible refine Nx.is_wp ?_); first | refine Nx.wo ?_ | refine Nx.zp (fun hc => ?_) (fun hc => ?_))
         | (refine Nx.zo ?_; first | refine Nx.opr rfl rfl ?_ | refine Nx.so ?_ | refine Nx.sb (fun bx => ?_) | refine Nx.sa (fun A2 c2 => ?_))
         | ((with_reducible refine Nx.is_at ?_); first | refine Nx.a ?_ | refine Nx.zd ?_ | refine Nx.zs (fun hc => ?_) (fun hc => ?_))
         | ((with_reducible refine Nx.is_mix ?_); first | refine Nx.m ?_ | refine Nx.zm ?_ | refine Nx.zt (fun hc => ?_) (fun hc => ?_))
         | refine Nx.zx ?_ | fail
       exact Nx.imm_le hI2 (Nx.again (j + 1, A4, c4, o2.take i ++ x :: o2.drop i) ⟨hjl, hins, by dsimp only; omega⟩ (by dsimp only; omega) ⟨rfl, rfl, rfl, rfl, rfl, rfl, rfl, rfl, trivial⟩ (by (exact Ent.auto))))
/-! Whether a table agrees with equations -/
end Go.Proofs.YtcmdemfhbekabaaGreat
/-
  Plain: the solutions of equations found cell by cell in the order of the cells, with what is left of each equation.
-/
namespace Go.Sol
/-- The least value of the equations in which a cell is, plus 1; 0 if it is in none. -/
def roomR (L : List Eqn) (c : Nat) : Int := L.foldl (fun a q => if c ∈ q.1 then (if a = 0 ∨ q.2 + 1 < a then q.2 + 1 else a) else a) 0
theorem roomR_snoc (L : List Eqn) (q : Eqn) (c : Nat) : roomR (L ++ [q]) c = if c ∈ q.1 then (if roomR L c = 0 ∨ q.2 + 1 < roomR L c then q.2 + 1 else roomR L c) else roomR L c := by
  unfold roomR; rw [List.foldl_append]; rfl
theorem snoc_ind {α : Type} {p : List α → Prop} (h0 : p []) (h1 : ∀ l x, p l → p (l ++ [x])) : ∀ l, p l := fun l => by
  rw [← List.reverse_reverse l]
  induction l.reverse with
  | nil => exact h0
  | cons x r ih => rw [List.reverse_cons]; exact h1 _ _ ih
theorem roomR_facts {c : Nat} : ∀ (L : List Eqn), (∀ q ∈ L, 0 ≤ q.2) → 0 ≤ roomR L c ∧ (roomR L c = 0 ↔ ∀ q ∈ L, c ∉ q.1) ∧ (roomR L c ≠ 0 → ∀ v, v ≤ roomR L c - 1 ↔ ∀ q ∈ L, c ∈ q.1 → v ≤ q.2) := by
  refine snoc_ind ?_ ?_
  · intro _
    exact ⟨Int.le_refl _, ⟨fun _ q hq => (nomatch hq), fun _ => rfl⟩, fun h => absurd rfl h⟩
  · intro L q ih hv
    obtain ⟨h1, h2, h3⟩ := ih fun p hp => hv p (by simp [hp])
    have hq := hv q (by simp)
    rw [roomR_snoc]
    by_cases hc : c ∈ q.1
    · rw [if_pos hc]
      by_cases h0 : roomR L c = 0
      · rw [if_pos (.inl h0)]
        refine ⟨by omega, ⟨fun h => by omega, fun h => absurd hc (h q (by simp))⟩, fun _ v => ⟨fun h p hp hcp => ?_, fun h => by have := h q (by simp) hc; omega⟩⟩
        rcases List.mem_append.1 hp with hp | hp
        · exact absurd hcp ((h2.1 h0) p hp)
        · rw [List.mem_singleton] at hp; subst hp; omega
      · have h3 := h3 h0
        by_cases hlt : q.2 + 1 < roomR L c
        · rw [if_pos (.inr hlt)]
          refine ⟨by omega, ⟨fun h => by omega, fun h => absurd hc (h q (by simp))⟩, fun _ v => ⟨fun h p hp hcp => ?_, fun h => by have := h q (by simp) hc; omega⟩⟩
          rcases List.mem_append.1 hp with hp | hp
          · exact (h3 v).1 (by omega) p hp hcp
          · rw [List.mem_singleton] at hp; subst hp; omega
        · rw [if_neg (by omega)]
          refine ⟨h1, ⟨fun h => absurd h h0, fun h => absurd hc (h q (by simp))⟩, fun _ v => ⟨fun h p hp hcp => ?_, fun h => (h3 v).2 fun p hp hcp => h p (by simp [hp]) hcp⟩⟩
          rcases List.mem_append.1 hp with hp | hp
          · exact (h3 v).1 h p hp hcp
          · rw [List.mem_singleton] at hp; subst hp; omega
    · rw [if_neg hc]
      refine ⟨h1, ⟨fun h p hp => ?_, fun h => h2.2 fun p hp => h p (by simp [hp])⟩, fun h0 v => ⟨fun h p hp hcp => ?_, fun h => (h3 h0 v).2 fun p hp hcp => h p (by simp [hp]) hcp⟩⟩
      · rcases List.mem_append.1 hp with hp | hp
        · exact h2.1 h p hp
        · rw [List.mem_singleton] at hp; subst hp; exact hc
      · rcases List.mem_append.1 hp with hp | hp
        · exact (h3 h0 v).1 h p hp hcp
        · rw [List.mem_singleton] at hp; subst hp; exact absurd hcp hc
/-- How far a cell can go, where so much is left of each equation. -/
def gtF (t : List Int) (c : Nat) (a : Int) (L : List Eqn) : Int := L.foldl (fun a q => if c ∈ q.1 then min a (restQ t q) else a) a
theorem gtF_snoc (t : List Int) (c : Nat) (a : Int) (L : List Eqn) (q : Eqn) : gtF t c a (L ++ [q]) = if c ∈ q.1 then min (gtF t c a L) (restQ t q) else gtF t c a L := by
  unfold gtF; rw [List.foldl_append]; rfl
theorem le_gtF {t : List Int} {c : Nat} {a v : Int} : ∀ (L : List Eqn), v ≤ gtF t c a L ↔ v ≤ a ∧ ∀ q ∈ L, c ∈ q.1 → v ≤ restQ t q := by
  refine snoc_ind ?_ ?_
  · exact ⟨fun h => ⟨h, fun q hq => (nomatch hq)⟩, fun h => h.1⟩
  · intro L q ih
    rw [gtF_snoc]
    by_cases hc : c ∈ q.1
    · rw [if_pos hc, Int.le_min, ih]
      refine ⟨fun h => ⟨h.1.1, fun p hp hcp => ?_⟩, fun h => ⟨⟨h.1, fun p hp => h.2 p (by simp [hp])⟩, h.2 q (by simp) hc⟩⟩
      rcases List.mem_append.1 hp with hp | hp
      · exact h.1.2 p hp hcp
      · rw [List.mem_singleton] at hp; subst hp; exact h.2
    · rw [if_neg hc, ih]
      refine ⟨fun h => ⟨h.1, fun p hp hcp => ?_⟩, fun h => ⟨h.1, fun p hp => h.2 p (by simp [hp])⟩⟩
      rcases List.mem_append.1 hp with hp | hp
      · exact h.2 p hp hcp
      · rw [List.mem_singleton] at hp; subst hp; exact absurd hcp hc
def topF (L : List Eqn) (t : List Int) : Int := gtF t t.length (max 0 (roomR L t.length - 1)) L
/-- Whether the equations whose last cell has just got its number are right. -/
def fitB (L : List Eqn) (t : List Int) : Bool := L.all fun q => !decide (q.1.getLast? = some (t.length - 1)) || decide (restQ t q = 0)
def rs (L : List Eqn) : Nat → List Int → List (List Int)
  | 0, t => if L.all (fun q => decide (restQ t q = 0)) then [t] else []
  | k + 1, t => (List.range (topF L t + 1).toNat).flatMap fun (n : Nat) => if fitB L (t ++ [(n : Int)]) then rs L k (t ++ [(n : Int)]) else []
/-- Equations over cells below N, ascending. -/
structure Asc (N : Nat) (L : List Eqn) : Prop where
  asc : ∀ q ∈ L, q.1.Pairwise (· < ·)
  lt : ∀ q ∈ L, ∀ c ∈ q.1, c < N
  val : ∀ q ∈ L, 0 ≤ q.2
theorem Asc.once {N : Nat} {L : List Eqn} (h : Asc N L) : Once L := fun q hq => (h.asc q hq).imp fun h => Nat.ne_of_lt h
theorem getD_app_lt {t r : List Int} {c : Nat} (h : c < t.length) : (t ++ r).getD c 0 = t.getD c 0 := by
  rw [List.getD_eq_getElem?_getD, List.getD_eq_getElem?_getD, List.getElem?_append_left h]
theorem getD_ge {t : List Int} {c : Nat} (h : t.length ≤ c) : t.getD c 0 = 0 := by
  rw [List.getD_eq_getElem?_getD, List.getElem?_eq_none h]; rfl
theorem getD_app_at {t : List Int} {v : Int} : (t ++ [v]).getD t.length 0 = v := by
  rw [List.getD_eq_getElem?_getD, List.getElem?_append_right (Nat.le_refl _), Nat.sub_self]; rfl
theorem last_le : ∀ {cs : List Nat} {m : Nat}, cs.Pairwise (· < ·) → cs.getLast? = some m → ∀ c ∈ cs, c ≤ m
  | [], _, _, h => by cases h
  | [x], m, _, h => by
    have h : some x = some m := h
    injection h with h
    intro c hc; rw [List.mem_singleton] at hc; omega
  | x :: y :: r, m, hp, h => by
    rw [List.getLast?_cons_cons] at h
    rw [List.pairwise_cons] at hp
    have ih := last_le hp.2 h
    intro c hc
    rcases List.mem_cons.1 hc with rfl | hc
    · have := hp.1 y (by simp); have := ih y (by simp); omega
    · exact ih c hc
/-- A table that goes on from a shorter one. -/
structure From (L : List Eqn) (k : Nat) (t s : List Int) : Prop where
  len : s.length = t.length + k
  pre : s.take t.length = t
  pos : ∀ c, t.length ≤ c → 0 ≤ s.getD c 0 ∧ ((∀ q ∈ L, c ∉ q.1) → s.getD c 0 = 0)
  sum : ∀ q ∈ L, sumC s q.1 = q.2
theorem pre_at {s t : List Int} (h : s.take t.length = t) {c : Nat} (hc : c < t.length) : s.getD c 0 = t.getD c 0 := by
  rw [← h, List.length_take] at hc
  rw [← h, List.getD_eq_getElem?_getD, List.getD_eq_getElem?_getD, List.getElem?_take, if_pos (by omega)]
theorem pre_snoc {s t : List Int} (h : s.take t.length = t) (hl : t.length < s.length) : s.take (t.length + 1) = t ++ [s.getD t.length 0] := by
  rw [List.take_succ_eq_append_getElem hl, h, List.getD_eq_getElem?_getD, List.getElem?_eq_getElem hl]; rfl
theorem mem_rs {N : Nat} {L : List Eqn} (ha : Asc N L) : ∀ {k : Nat} {t s : List Int}, t.length + k = N → (∀ c, 0 ≤ t.getD c 0) → (s ∈ rs L k t ↔ From L k t s)
  | 0, t, s, hN, h0 => by
    rw [rs]
    constructor
    · intro h
      by_cases hall : L.all (fun q => decide (restQ t q = 0)) = true
      · rw [if_pos hall, List.mem_singleton] at h
        subst h
        refine ⟨rfl, List.take_length, fun c hc => by rw [getD_ge hc]; exact ⟨Int.le_refl _, fun _ => rfl⟩, fun q hq => ?_⟩
        have := of_decide_eq_true (List.all_eq_true.1 hall q hq)
        unfold restQ at this
        omega
      · rw [if_neg hall] at h; cases h
    · intro h
      have hst : s = t := by
        have := h.pre
        rwa [← Nat.add_zero t.length, ← h.len, List.take_length] at this
      subst hst
      rw [if_pos (List.all_eq_true.2 fun q hq => decide_eq_true (by have := h.sum q hq; unfold restQ; omega))]
      exact List.mem_singleton.2 rfl
  | k + 1, t, s, hN, h0 => by
    rw [rs, List.mem_flatMap]
    constructor
    · rintro ⟨n, hn, hs⟩
      rw [List.mem_range] at hn
      by_cases hf : fitB L (t ++ [(n : Int)]) = true
      · rw [if_pos hf] at hs
        have hl1 : (t ++ [(n : Int)]).length = t.length + 1 := by simp
        have h0' : ∀ c, 0 ≤ (t ++ [(n : Int)]).getD c 0 := fun c => by
          rcases Nat.lt_trichotomy c t.length with h | h | h
          · rw [getD_app_lt h]; exact h0 c
          · subst h; rw [getD_app_at]; omega
          · rw [getD_ge (by rw [hl1]; omega)]; exact Int.le_refl _
        have g := (mem_rs ha (by rw [hl1]; omega) h0').1 hs
        have hat : s.getD t.length 0 = n := by
          rw [pre_at g.pre (by rw [hl1]; omega), getD_app_at]
        refine ⟨by rw [g.len, hl1]; omega, ?_, fun c hc => ?_, g.sum⟩
        · have := congrArg (List.take t.length) g.pre
          rwa [List.take_take, hl1, Nat.min_eq_left (by omega), List.take_left' rfl] at this
        · rcases Nat.lt_or_ge t.length c with h | h
          · exact g.pos c (by rw [hl1]; omega)
          · obtain rfl : c = t.length := by omega
            rw [hat]
            refine ⟨by omega, fun hno => ?_⟩
            have hle := (le_gtF L).1 (show (n : Int) ≤ gtF t t.length (max 0 (roomR L t.length - 1)) L by unfold topF at hn; omega)
            have hr := (roomR_facts (c := t.length) L ha.val).2.1.2 hno
            have := hle.1
            omega
      · rw [if_neg hf] at hs; cases hs
    · intro g
      have hlt : t.length < s.length := by rw [g.len]; omega
      have hp := g.pos t.length (Nat.le_refl _)
      have hnn : ∀ c, 0 ≤ s.getD c 0 := fun c => by
        rcases Nat.lt_or_ge c t.length with h | h
        · rw [pre_at g.pre h]; exact h0 c
        · exact (g.pos c h).1
      have htn : ((s.getD t.length 0).toNat : Int) = s.getD t.length 0 := by omega
      refine ⟨(s.getD t.length 0).toNat, List.mem_range.2 ?_, ?_⟩
      · have : s.getD t.length 0 ≤ topF L t := by
          unfold topF
          refine (le_gtF L).2 ⟨?_, fun q hq hc => ?_⟩
          · obtain ⟨r1, r2, r3⟩ := roomR_facts (c := t.length) L ha.val
            by_cases hr : roomR L t.length = 0
            · have := hp.2 (r2.1 hr); omega
            · have := (r3 hr (s.getD t.length 0)).2 fun q hq hc => by
                have := le_sumC (s := s) (c := t.length) (cs := q.1) (fun d _ => hnn d) hc
                have := g.sum q hq
                omega
              omega
          · have h1 : sumC s q.1 = sumC t q.1 + sumC s (q.1.filter fun c => decide (t.length ≤ c)) := by
              have : ∀ cs : List Nat, sumC s cs = sumC t cs + sumC s (cs.filter fun c => decide (t.length ≤ c)) := by
                intro cs
                induction cs with
                | nil => rfl
                | cons d r ih =>
                  rw [sumC, sumC, ih]
                  rcases Nat.lt_or_ge d t.length with h | h
                  · rw [List.filter_cons_of_neg (by simpa using h), pre_at g.pre h]; omega
                  · rw [List.filter_cons_of_pos (by simpa using h), sumC, getD_ge h]; omega
              exact this _
            have h2 := le_sumC (s := s) (c := t.length) (cs := q.1.filter fun c => decide (t.length ≤ c)) (fun d _ => hnn d) (List.mem_filter.2 ⟨hc, by simp⟩)
            have h3 := g.sum q hq
            unfold restQ
            omega
        omega
      · rw [htn]
        have hl1 : (t ++ [s.getD t.length 0]).length = t.length + 1 := by simp
        have hpre := pre_snoc g.pre hlt
        rw [if_pos]
        · refine (mem_rs ha (by rw [hl1]; omega) (fun c => ?_)).2 ⟨by rw [g.len, hl1]; omega, by rw [hl1]; exact hpre, fun c hc => g.pos c (by rw [hl1] at hc; omega), g.sum⟩
          rcases Nat.lt_or_ge c (t.length + 1) with h | h
          · rw [← pre_at (s := s) (by rw [hl1]; exact hpre) (by rw [hl1]; exact h)]; exact hnn c
          · rw [getD_ge (by rw [hl1]; exact h)]; exact Int.le_refl _
        · refine List.all_eq_true.2 fun q hq => ?_
          rw [hl1, Nat.add_sub_cancel]
          by_cases hla : q.1.getLast? = some t.length
          · have hle := last_le (ha.asc q hq) hla
            have : sumC (t ++ [s.getD t.length 0]) q.1 = sumC s q.1 := sumC_congr fun c hc => (pre_at (s := s) (by rw [hl1]; exact hpre) (by rw [hl1]; have := hle c hc; omega)).symm
            rw [decide_eq_true hla, decide_eq_true (show restQ (t ++ [s.getD t.length 0]) q = 0 by unfold restQ; rw [this, g.sum q hq]; omega)]
            rfl
          · rw [decide_eq_false hla]; rfl
theorem rs_sorted {N : Nat} {L : List Eqn} (ha : Asc N L) : ∀ {k : Nat} {t : List Int}, t.length + k = N → (∀ c, 0 ≤ t.getD c 0) → (rs L k t).Pairwise (ltU false (List.range' t.length k))
  | 0, t, _, _ => by
    rw [rs]
    split
    · exact List.pairwise_singleton _ _
    · exact List.Pairwise.nil
  | k + 1, t, hN, h0 => by
    rw [rs]
    have hl1 : ∀ n : Nat, (t ++ [(n : Int)]).length = t.length + 1 := fun n => by simp
    have h0' : ∀ (n : Nat) c, 0 ≤ (t ++ [(n : Int)]).getD c 0 := fun n c => by
      rcases Nat.lt_trichotomy c t.length with h | h | h
      · rw [getD_app_lt h]; exact h0 c
      · subst h; rw [getD_app_at]; omega
      · rw [getD_ge (by rw [hl1]; omega)]; exact Int.le_refl _
    have hat : ∀ (n : Nat) s, s ∈ (if fitB L (t ++ [(n : Int)]) then rs L k (t ++ [(n : Int)]) else []) → s.getD t.length 0 = n := fun n s hs => by
      split at hs
      · have g := (mem_rs ha (by rw [hl1]; omega) (h0' n)).1 hs
        rw [pre_at g.pre (by rw [hl1]; omega), getD_app_at]
      · cases hs
    refine pairwise_flatMap (fun n _ => ?_) ?_
    · rw [List.range'_succ]
      split
      · have ih := rs_sorted ha (k := k) (t := t ++ [(n : Int)]) (by rw [hl1]; omega) (h0' n)
        rw [hl1] at ih
        rename_i hf
        refine List.Pairwise.imp_of_mem (fun {a b} hia hib hab => ?_) ih
        refine .inr ⟨?_, hab⟩
        rw [hat n a (by rw [if_pos hf]; exact hia), hat n b (by rw [if_pos hf]; exact hib)]
      · exact List.Pairwise.nil
    · refine List.Pairwise.imp (fun {x y} hxy a hia b hib => ?_) List.pairwise_lt_range
      rw [List.range'_succ]
      refine .inl ?_
      rw [if_neg (by decide), hat x a hia, hat y b hib]
      omega
/-- The product of the rooms of some cells. -/
def prodR (L : List Eqn) : List Nat → Int
  | [] => 1
  | c :: r => max 1 (roomR L c) * prodR L r
theorem prodR_pos (L : List Eqn) : ∀ cs, 1 ≤ prodR L cs
  | [] => Int.le_refl _
  | c :: r => by
    have h1 : (1 : Int) * 1 ≤ max 1 (roomR L c) * prodR L r := Int.mul_le_mul (by omega) (prodR_pos L r) (by omega) (by omega)
    rw [prodR]; omega
theorem flatMap_len_le {α β : Type} {f : α → List β} {m : Nat} : ∀ {l : List α}, (∀ x ∈ l, (f x).length ≤ m) → (l.flatMap f).length ≤ l.length * m
  | [], _ => by simp
  | x :: r, h => by
    rw [List.flatMap_cons, List.length_append, List.length_cons, Nat.succ_mul]
    have := flatMap_len_le (l := r) fun y hy => h y (by simp [hy])
    have := h x (by simp)
    omega
theorem rs_len {L : List Eqn} : ∀ (k : Nat) (t : List Int), ((rs L k t).length : Int) ≤ prodR L (List.range' t.length k)
  | 0, t => by
    rw [rs, List.range'_zero, prodR]
    split <;> simp
  | k + 1, t => by
    rw [rs, List.range'_succ, prodR]
    have hP := prodR_pos L (List.range' (t.length + 1) k)
    have h1 := flatMap_len_le (l := List.range (topF L t + 1).toNat) (f := fun (n : Nat) => if fitB L (t ++ [(n : Int)]) then rs L k (t ++ [(n : Int)]) else []) (m := (prodR L (List.range' (t.length + 1) k)).toNat) fun n _ => by
      split
      · have := rs_len (L := L) k (t ++ [(n : Int)])
        rw [show (t ++ [(n : Int)]).length = t.length + 1 by simp] at this
        omega
      · exact Nat.zero_le _
    rw [List.length_range] at h1
    have h2 : topF L t ≤ max 0 (roomR L t.length - 1) := by
      unfold topF
      exact ((le_gtF L).1 (Int.le_refl _)).1
    have h3 : ((topF L t + 1).toNat : Int) ≤ max 1 (roomR L t.length) := by omega
    have h4 : ((topF L t + 1).toNat : Int) * (prodR L (List.range' (t.length + 1) k)) ≤ max 1 (roomR L t.length) * prodR L (List.range' (t.length + 1) k) := Int.mul_le_mul_of_nonneg_right h3 (by omega)
    have h5 : (((topF L t + 1).toNat * (prodR L (List.range' (t.length + 1) k)).toNat : Nat) : Int) = ((topF L t + 1).toNat : Int) * (prodR L (List.range' (t.length + 1) k)) := by
      rw [Int.natCast_mul, Int.toNat_of_nonneg (a := prodR L _) (by omega)]
    omega
/-- Where two tables agree on the cells that are left out, their order is that of the others. -/
theorem ltU_filter {p : Nat → Bool} {a b : List Int} : ∀ {U : List Nat}, (∀ c ∈ U, p c = false → a.getD c 0 = b.getD c 0) → ltU false U a b → ltU false (U.filter p) a b
  | [], _, h => h
  | c :: U, hs, h => by
    cases hp : p c with
    | false =>
      rw [List.filter_cons_of_neg (by simp [hp])]
      have := hs c (by simp) hp
      rcases h with h | h
      · rw [if_neg (by decide)] at h; omega
      · exact ltU_filter (fun d hd => hs d (by simp [hd])) h.2
    | true =>
      rw [List.filter_cons_of_pos (by simp [hp])]
      rcases h with h | h
      · exact .inl h
      · exact .inr ⟨h.1, ltU_filter (fun d hd => hs d (by simp [hd])) h.2⟩
end Go.Sol
/- Contracts of functions of the given program, and lemmas about plain lists and numbers: what the laws of this seat lean on. -/
namespace Go.Proofs.YtcmdemfhbekabaaGreat
open Go.Eng Go.Sol
attribute [local irreducible] opK wpList Code.wp Exit.then Exit.inBlock fnPost bodyPost Nx Calls Oper.wp Rd Rds Wr Ent Stars Blk Again Vec FnSpec wpMix QRun Stop Upto wpAt
/-! The reference's test of equations -/
theorem all_dropQ {n : Int} {l : List EqR} {k : Nat} (hk : k < l.length) : (l.drop k).all (rightB n) = (rightB n (l.getD k default) && (l.drop (k + 1)).all (rightB n)) := by
  rw [List.drop_eq_getElem_cons hk, List.all_cons, List.getD_eq_getElem?_getD, List.getElem?_eq_getElem hk]; rfl
set_option maxRecDepth 10000 in
set_option maxHeartbeats 8000000 in
theorem RValid_spec (n : Int) (A : Option Addr) (c : Nat) (l : List EqR) (I : PH) (hl : Eqs I A c l) :
    FnSpec Tryz.prog 105 [.int .i64 n, .slice A l.length c] I [] (fun v R' => v = .bool (validB n l) ∧ R' = []) := by
  have hlen := hl.len
  unfold validB
  refine FnSpec.enterP Tryz.func105 rfl Tryz.ntmps105 rfl fun w F => ?_
  by_cases h1 : n < 1
  · rw [decide_eq_false (show ¬(1 ≤ n ∧ n ≤ 48) by omega), Bool.false_and, Bool.false_and]
    repeat' first
      | ((with_reducible refine Nx.is_wp ?_); first | refine Nx.wo ?_ | refine Nx.zp (fun hc => ?_) (fun hc => ?_))
      | (refine Nx.zo ?_; first | refine Nx.opr rfl rfl ?_ | refine Nx.so ?_ | refine Nx.sb (fun bx => ?_) | refine Nx.sa (fun A2 c2 => ?_))
      | ((with_reducible refine Nx.is_at ?_); first | refine Nx.a ?_ | refine Nx.zd ?_ | refine Nx.zs (fun hc => ?_) (fun hc => ?_))
      | ((with_reducible refine Nx.is_mix ?_); first | refine Nx.m ?_ | refine Nx.zm ?_ | refine Nx.zt (fun hc => ?_) (fun hc => ?_))
      | refine Nx.zx ?_ | fail
    exact Nx.ret_fn rfl [] ⟨rfl, rfl⟩ (by (exact Ent.auto))
  by_cases h2 : 48 < n
  · rw [decide_eq_false (show ¬(1 ≤ n ∧ n ≤ 48) by omega), Bool.false_and, Bool.false_and]
    repeat' first
      | ((with_reducible refine Nx.is_wp ?_); first | refine Nx.wo ?_ | refine Nx.zp (fun hc => ?_) (fun hc => ?_))
      | (refine Nx.zo ?_; first | refine Nx.opr rfl rfl ?_ | refine Nx.so ?_ | refine Nx.sb (fun bx => ?_) | refine Nx.sa (fun A2 c2 => ?_))
      | ((with_reducible refine Nx.is_at ?_); first | refine Nx.a ?_ | refine Nx.zd ?_ | refine Nx.zs (fun hc => ?_) (fun hc => ?_))
      | ((with_reducible refine Nx.is_mix ?_); first | refine Nx.m ?_ | refine Nx.zm ?_ | refine Nx.zt (fun hc => ?_) (fun hc => ?_))
      | refine Nx.zx ?_ | fail
    exact Nx.ret_fn rfl [] ⟨rfl, rfl⟩ (by (exact Ent.auto))
  rw [decide_eq_true (show 1 ≤ n ∧ n ≤ 48 by omega), Bool.true_and]
  by_cases h3 : l.length ≤ 1152
  case neg =>
    rw [decide_eq_false h3, Bool.false_and]
    repeat' first
      | ((with_reducible refine Nx.is_wp ?_); first | refine Nx.wo ?_ | refine Nx.zp (fun hc => ?_) (fun hc => ?_))
      | (refine Nx.zo ?_; first | refine Nx.opr rfl rfl ?_ | refine Nx.so ?_ | refine Nx.sb (fun bx => ?_) | refine Nx.sa (fun A2 c2 => ?_))
      | ((with_reducible refine Nx.is_at ?_); first | refine Nx.a ?_ | refine Nx.zd ?_ | refine Nx.zs (fun hc => ?_) (fun hc => ?_))
      | ((with_reducible refine Nx.is_mix ?_); first | refine Nx.m ?_ | refine Nx.zm ?_ | refine Nx.zt (fun hc => ?_) (fun hc => ?_))
      | refine Nx.zx ?_ | fail
    exact Nx.ret_fn rfl [] ⟨rfl, rfl⟩ (by (exact Ent.auto))
  rw [decide_eq_true h3, Bool.true_and]
  repeat' first
    | ((with_reducible refine Nx.is_wp ?_); first | refine Nx.wo ?_ | refine Nx.zp (fun hc => ?_) (fun hc => ?_))
    | (refine Nx.zo ?_; first | refine Nx.opr rfl rfl ?_ | refine Nx.so ?_ | refine Nx.sb (fun bx => ?_) | refine Nx.sa (fun A2 c2 => ?_))
    | ((with_reducible refine Nx.is_at ?_); first | refine Nx.a ?_ | refine Nx.zd ?_ | refine Nx.zs (fun hc => ?_) (fun hc => ?_))
    | ((with_reducible refine Nx.is_mix ?_); first | refine Nx.m ?_ | refine Nx.zm ?_ | refine Nx.zt (fun hc => ?_) (fun hc => ?_))
    | refine Nx.zx ?_ | fail
  refine Nx.p_loop (σ := Nat) (fun k => [(0, .int .i64 n), (21, .slice A l.length c), (22, .int .i64 l.length), (23, .int .i64 (k : Int))])
    (fun _ => [F]) (fun k => k ≤ l.length ∧ l.all (rightB n) = (l.drop k).all (rightB n)) (fun k => l.length - k) 0 rfl ⟨Nat.zero_le _, rfl⟩ ⟨rfl, rfl, rfl, rfl, trivial⟩ (by (exact Ent.auto)) ?_
  rintro k ⟨hk, he⟩
  by_cases hlt : k < l.length
  case neg =>
    obtain rfl : k = l.length := by omega
    rw [List.drop_length] at he
    rw [he]
    repeat' first
      | ((with_reducible refine Nx.is_wp ?_); first | refine Nx.wo ?_ | refine Nx.zp (fun hc => ?_) (fun hc => ?_))
      | (refine Nx.zo ?_; first | refine Nx.opr rfl rfl ?_ | refine Nx.so ?_ | refine Nx.sb (fun bx => ?_) | refine Nx.sa (fun A2 c2 => ?_))
      | ((with_reducible refine Nx.is_at ?_); first | refine Nx.a ?_ | refine Nx.zd ?_ | refine Nx.zs (fun hc => ?_) (fun hc => ?_))
      | ((with_reducible refine Nx.is_mix ?_); first | refine Nx.m ?_ | refine Nx.zm ?_ | refine Nx.zt (fun hc => ?_) (fun hc => ?_))
      | refine Nx.zx ?_ | fail
    exact Nx.ret_fn rfl [] ⟨rfl, rfl⟩ (by (exact Ent.auto))
  rw [all_dropQ hlt] at he
  have hq := hl.inner _ (getD_memQ hlt)
  have hrds : ∀ (W : World) (R : List Res), Rds W I R ((ad A).add (k * 2)) (eqC (l.getD k default)) := fun W R => hl.outer.rds hlt
  generalize l.getD k default = q at he hq hrds
  obtain ⟨⟨Ax, cx, xs⟩, z⟩ := q
  dsimp only at hq
  replace hrds : ∀ (W : World) (R : List Res), Rds W I R ((ad A).add (k * 2)) [.slice Ax xs.length cx, .int .i64 z] := hrds
  have hxl := hq.len
  have hrt : rightB n ((Ax, cx, xs), z) = (decide (xs ≠ []) && decide (0 ≤ z ∧ z ≤ 1000000) && ascB n (-1) xs) := rfl
  rw [hrt] at he
  by_cases h0 : xs = []
  · subst h0
    rw [he]
    repeat' first
      | ((with_reducible refine Nx.is_wp ?_); first | refine Nx.wo ?_ | refine Nx.zp (fun hc => ?_) (fun hc => ?_))
      | (refine Nx.zo ?_; first | refine Nx.opr rfl rfl ?_ | refine Nx.indexAddr_nat rfl rfl rfl rfl rfl (by omega) (hl.outer.isSome (by omega) (by omega)) ?_ | refine Nx.loads rfl rfl rfl rfl (hrds _ _) rfl ?_ | refine Nx.so ?_ | refine Nx.sb (fun bx => ?_) | refine Nx.sa (fun A2 c2 => ?_))
      | ((with_reducible refine Nx.is_at ?_); first | refine Nx.a ?_ | refine Nx.zd ?_ | refine Nx.zs (fun hc => ?_) (fun hc => ?_))
      | ((with_reducible refine Nx.is_mix ?_); first | refine Nx.m ?_ | refine Nx.zm ?_ | refine Nx.zt (fun hc => ?_) (fun hc => ?_))
      | refine Nx.zx ?_ | fail
    exact Nx.ret_fn rfl [] ⟨rfl, rfl⟩ (by (exact Ent.auto))
  have hpos : 0 < xs.length := List.length_pos_iff.2 h0
  rw [decide_eq_true h0, Bool.true_and] at he
  by_cases hz0 : z < 0
  · rw [decide_eq_false (show ¬(0 ≤ z ∧ z ≤ 1000000) by omega), Bool.false_and, Bool.false_and] at he
    rw [he]
    repeat' first
      | ((with_reducible refine Nx.is_wp ?_); first | refine Nx.wo ?_ | refine Nx.zp (fun hc => ?_) (fun hc => ?_))
      | (refine Nx.zo ?_; first | refine Nx.opr rfl rfl ?_ | refine Nx.indexAddr_nat rfl rfl rfl rfl rfl (by omega) (hl.outer.isSome (by omega) (by omega)) ?_ | refine Nx.loads rfl rfl rfl rfl (hrds _ _) rfl ?_ | refine Nx.so ?_ | refine Nx.sb (fun bx => ?_) | refine Nx.sa (fun A2 c2 => ?_))
      | ((with_reducible refine Nx.is_at ?_); first | refine Nx.a ?_ | refine Nx.zd ?_ | refine Nx.zs (fun hc => ?_) (fun hc => ?_))
      | ((with_reducible refine Nx.is_mix ?_); first | refine Nx.m ?_ | refine Nx.zm ?_ | refine Nx.zt (fun hc => ?_) (fun hc => ?_))
      | refine Nx.zx ?_ | fail
    exact Nx.ret_fn rfl [] ⟨rfl, rfl⟩ (by (exact Ent.auto))
  by_cases hz1 : 1000000 < z
  · rw [decide_eq_false (show ¬(0 ≤ z ∧ z ≤ 1000000) by omega), Bool.false_and, Bool.false_and] at he
    rw [he]
    repeat' first
      | ((with_reducible refine Nx.is_wp ?_); first | refine Nx.wo ?_ | refine Nx.zp (fun hc => ?_) (fun hc => ?_))
      | (refine Nx.zo ?_; first | refine Nx.opr rfl rfl ?_ | refine Nx.indexAddr_nat rfl rfl rfl rfl rfl (by omega) (hl.outer.isSome (by omega) (by omega)) ?_ | refine Nx.loads rfl rfl rfl rfl (hrds _ _) rfl ?_ | refine Nx.so ?_ | refine Nx.sb (fun bx => ?_) | refine Nx.sa (fun A2 c2 => ?_))
      | ((with_reducible refine Nx.is_at ?_); first | refine Nx.a ?_ | refine Nx.zd ?_ | refine Nx.zs (fun hc => ?_) (fun hc => ?_))
      | ((with_reducible refine Nx.is_mix ?_); first | refine Nx.m ?_ | refine Nx.zm ?_ | refine Nx.zt (fun hc => ?_) (fun hc => ?_))
      | refine Nx.zx ?_ | fail
    exact Nx.ret_fn rfl [] ⟨rfl, rfl⟩ (by (exact Ent.auto))
  rw [decide_eq_true (show 0 ≤ z ∧ z ≤ 1000000 by omega), Bool.true_and] at he
  repeat' first
    | ((with_reducible refine Nx.is_wp ?_); first | refine Nx.wo ?_ | refine Nx.zp (fun hc => ?_) (fun hc => ?_))
    | (refine Nx.zo ?_; first | refine Nx.opr rfl rfl ?_ | refine Nx.indexAddr_nat rfl rfl rfl rfl rfl (by omega) (hl.outer.isSome (by omega) (by omega)) ?_ | refine Nx.loads rfl rfl rfl rfl (hrds _ _) rfl ?_ | refine Nx.so ?_ | refine Nx.sb (fun bx => ?_) | refine Nx.sa (fun A2 c2 => ?_))
    | ((with_reducible refine Nx.is_at ?_); first | refine Nx.a ?_ | refine Nx.zd ?_ | refine Nx.zs (fun hc => ?_) (fun hc => ?_))
    | ((with_reducible refine Nx.is_mix ?_); first | refine Nx.m ?_ | refine Nx.zm ?_ | refine Nx.zt (fun hc => ?_) (fun hc => ?_))
    | refine Nx.zx ?_ | fail
  revert bx; intro b6
  refine Nx.p_loop (σ := Nat) (fun j => [(0, .int .i64 n), (7, .int .i64 (lastOr (-1) xs j)), (21, .slice A l.length c), (22, .int .i64 l.length), (23, .int .i64 (k : Int)), (42, .slice Ax xs.length cx), (43, .int .i64 xs.length), (44, .int .i64 (j : Int))])
    (fun _ => [F]) (fun j => j ≤ xs.length ∧ ascB n (-1) xs = ascB n (lastOr (-1) xs j) (xs.drop j)) (fun j => xs.length - j) 0 rfl ⟨Nat.zero_le _, rfl⟩ ⟨rfl, rfl, rfl, rfl, rfl, rfl, rfl, rfl, trivial⟩ (by (exact Ent.auto)) ?_
  rintro j ⟨hj, hje⟩
  by_cases hjl : j < xs.length
  case neg =>
    obtain rfl : j = xs.length := by omega
    rw [List.drop_length] at hje
    rw [hje] at he
    repeat' first
      | ((with_reducible refine Nx.is_wp ?_); first | refine Nx.wo ?_ | refine Nx.zp (fun hc => ?_) (fun hc => ?_))
      | (refine Nx.zo ?_; first | refine Nx.opr rfl rfl ?_ | refine Nx.so ?_ | refine Nx.sb (fun bx => ?_) | refine Nx.sa (fun A2 c2 => ?_))
      | ((with_reducible refine Nx.is_at ?_); first | refine Nx.a ?_ | refine Nx.zd ?_ | refine Nx.zs (fun hc => ?_) (fun hc => ?_))
      | ((with_reducible refine Nx.is_mix ?_); first | refine Nx.m ?_ | refine Nx.zm ?_ | refine Nx.zt (fun hc => ?_) (fun hc => ?_))
      | refine Nx.zx ?_ | fail
    exact Nx.again (k + 1) ⟨hlt, by rw [he, ascB, Bool.true_and]⟩ (by omega) ⟨rfl, rfl, rfl, rfl, trivial⟩ (by (exact Ent.auto))
  rw [ascB_at hjl] at hje
  by_cases h4 : lastOr (-1) xs j < xs.getD j default
  · by_cases h5 : xs.getD j default < n
    · rw [decide_eq_true ⟨h4, h5⟩, Bool.true_and] at hje
      repeat' first
        | ((with_reducible refine Nx.is_wp ?_); first | refine Nx.wo ?_ | refine Nx.zp (fun hc => ?_) (fun hc => ?_))
        | (refine Nx.zo ?_; first | refine Nx.opr rfl rfl ?_ | refine Nx.indexAddr_nat rfl rfl rfl rfl rfl (by omega) (hq.isSome (by omega)) ?_ | refine Nx.load rfl rfl rfl (hq.rd (by omega)) ?_ | refine Nx.so ?_ | refine Nx.sb (fun bx => ?_) | refine Nx.sa (fun A2 c2 => ?_))
        | ((with_reducible refine Nx.is_at ?_); first | refine Nx.a ?_ | refine Nx.zd ?_ | refine Nx.zs (fun hc => ?_) (fun hc => ?_))
        | ((with_reducible refine Nx.is_mix ?_); first | refine Nx.m ?_ | refine Nx.zm ?_ | refine Nx.zt (fun hc => ?_) (fun hc => ?_))
        | refine Nx.zx ?_ | fail
      exact Nx.again (j + 1) ⟨hjl, hje⟩ (by omega) ⟨rfl, by unfold lastOr; rw [if_neg (Nat.succ_ne_zero j), Nat.add_sub_cancel]; rfl, rfl, rfl, rfl, rfl, rfl, rfl, trivial⟩ (by (exact Ent.auto))
    · rw [decide_eq_false (by rintro ⟨_, h⟩; exact h5 h), Bool.false_and] at hje
      rw [hje] at he
      rw [he]
      repeat' first
        | ((with_reducible refine Nx.is_wp ?_); first | refine Nx.wo ?_ | refine Nx.zp (fun hc => ?_) (fun hc => ?_))
        | (refine Nx.zo ?_; first | refine Nx.opr rfl rfl ?_ | refine Nx.indexAddr_nat rfl rfl rfl rfl rfl (by omega) (hq.isSome (by omega)) ?_ | refine Nx.load rfl rfl rfl (hq.rd (by omega)) ?_ | refine Nx.so ?_ | refine Nx.sb (fun bx => ?_) | refine Nx.sa (fun A2 c2 => ?_))
        | ((with_reducible refine Nx.is_at ?_); first | refine Nx.a ?_ | refine Nx.zd ?_ | refine Nx.zs (fun hc => ?_) (fun hc => ?_))
        | ((with_reducible refine Nx.is_mix ?_); first | refine Nx.m ?_ | refine Nx.zm ?_ | refine Nx.zt (fun hc => ?_) (fun hc => ?_))
        | refine Nx.zx ?_ | fail
      exact Nx.ret_fn rfl [] ⟨rfl, rfl⟩ (by (exact Ent.auto))
  · rw [decide_eq_false (by rintro ⟨h, _⟩; exact h4 h), Bool.false_and] at hje
    rw [hje] at he
    rw [he]
    repeat' first
      | ((with_reducible refine Nx.is_wp ?_); first | refine Nx.wo ?_ | refine Nx.zp (fun hc => ?_) (fun hc => ?_))
      | (refine Nx.zo ?_; first | refine Nx.opr rfl rfl ?_ | refine Nx.indexAddr_nat rfl rfl rfl rfl rfl (by omega) (hq.isSome (by omega)) ?_ | refine Nx.load rfl rfl rfl (hq.rd (by omega)) ?_ | refine Nx.so ?_ | refine Nx.sb (fun bx => ?_) | refine Nx.sa (fun A2 c2 => ?_))
      | ((with_reducible refine Nx.is_at ?_); first | refine Nx.a ?_ | refine Nx.zd ?_ | refine Nx.zs (fun hc => ?_) (fun hc => ?_))
      | ((with_reducible refine Nx.is_mix ?_); first | refine Nx.m ?_ | refine Nx.zm ?_ | refine Nx.zt (fun hc => ?_) (fun hc => ?_))
      | refine Nx.zx ?_ | fail
    exact Nx.ret_fn rfl [] ⟨rfl, rfl⟩ (by (exact Ent.auto))
/-! Rooms -/
theorem cells_bd {n : Nat} {l : List EqR} (hg : ∀ q ∈ l, GoodE n q) : ∀ q ∈ eqns l, 0 ≤ q.2 ∧ q.2 ≤ 1000000 := fun q hq => by
  obtain ⟨x, hx, rfl⟩ := List.mem_map.1 hq
  exact (hg x hx).val
theorem not_mem_take {xs : List Int} (h : xs.Pairwise (· < ·)) {j : Nat} (hj : j < xs.length) {y : Int} (hy : xs.getD j default = y) : y ∉ xs.take j := fun hm => by
  obtain ⟨a, ha, he⟩ := List.mem_iff_getElem.1 hm
  rw [List.length_take] at ha
  rw [List.getElem_take] at he
  have hlt2 := (List.pairwise_iff_getElem.1 h) a j (by omega) hj (by omega)
  rw [List.getD_eq_getElem?_getD, List.getElem?_eq_getElem hj] at hy
  have hy : xs[j] = y := hy
  omega
def roomS (r z : Int) : Int := if r = 0 ∨ z + 1 < r then z + 1 else r
theorem roomR_bd {n : Nat} {l : List EqR} (hg : ∀ q ∈ l, GoodE n q) (x k : Nat) : 0 ≤ roomR (eqns (l.take k)) x ∧ roomR (eqns (l.take k)) x ≤ 1000001 := by
  have h1 := roomR_facts (c := x) (eqns (l.take k)) fun q hq => (cells_bd (fun q hq => hg q (List.mem_of_mem_take hq)) q hq).1
  refine ⟨h1.1, ?_⟩
  by_cases h0 : roomR (eqns (l.take k)) x = 0
  · omega
  · have hne : ∃ q ∈ eqns (l.take k), x ∈ q.1 := Classical.byContradiction fun hno => h0 (h1.2.1.2 fun q hq hx => hno ⟨q, hq, hx⟩)
    obtain ⟨q, hq, hx⟩ := hne
    have := (h1.2.2 h0 (roomR (eqns (l.take k)) x - 1)).1 (Int.le_refl _) q hq hx
    have := (cells_bd (fun q hq => hg q (List.mem_of_mem_take hq)) q hq).2
    omega
set_option maxRecDepth 10000 in
set_option maxHeartbeats 8000000 in
theorem room_spec (A : Option Addr) (c : Nat) (l : List EqR) (n x : Nat) (I : PH) (hl : Eqs I A c l) (hg : ∀ q ∈ l, GoodE n q) :
    FnSpec Tryz.prog 62 [.slice A l.length c, .int .i64 (x : Int)] I [] (fun v R' => v = .int .i64 (roomR (eqns l) x) ∧ R' = []) := by
  have hlen := hl.len
  refine FnSpec.enterP Tryz.func62 rfl Tryz.ntmps62 rfl fun w F => ?_
  repeat' first
    | ((with_reducible refine Nx.is_wp ?_); first | refine Nx.wo ?_ | refine Nx.zp (fun hc => ?_) (fun hc => ?_))
    | (refine Nx.zo ?_; first | refine Nx.opr rfl rfl ?_ | refine Nx.so ?_ | refine Nx.sb (fun bx => ?_) | refine Nx.sa (fun A2 c2 => ?_))
    | ((with_reducible refine Nx.is_at ?_); first | refine Nx.a ?_ | refine Nx.zd ?_ | refine Nx.zs (fun hc => ?_) (fun hc => ?_))
    | ((with_reducible refine Nx.is_mix ?_); first | refine Nx.m ?_ | refine Nx.zm ?_ | refine Nx.zt (fun hc => ?_) (fun hc => ?_))
    | refine Nx.zx ?_ | fail
  refine Nx.p_loop (σ := Nat) (fun k => [(1, .int .i64 (x : Int)), (5, .int .i64 (roomR (eqns (l.take k)) x)), (10, .slice A l.length c), (11, .int .i64 l.length), (12, .int .i64 (k : Int))])
    (fun _ => [F]) (fun k => k ≤ l.length) (fun k => l.length - k) 0 rfl (Nat.zero_le _) ⟨rfl, rfl, rfl, rfl, rfl, trivial⟩ (by (exact Ent.auto)) ?_
  intro k hk
  by_cases hlt : k < l.length
  case neg =>
    obtain rfl : k = l.length := by omega
    rw [List.take_length]
    repeat' first
      | ((with_reducible refine Nx.is_wp ?_); first | refine Nx.wo ?_ | refine Nx.zp (fun hc => ?_) (fun hc => ?_))
      | (refine Nx.zo ?_; first | refine Nx.opr rfl rfl ?_ | refine Nx.so ?_ | refine Nx.sb (fun bx => ?_) | refine Nx.sa (fun A2 c2 => ?_))
      | ((with_reducible refine Nx.is_at ?_); first | refine Nx.a ?_ | refine Nx.zd ?_ | refine Nx.zs (fun hc => ?_) (fun hc => ?_))
      | ((with_reducible refine Nx.is_mix ?_); first | refine Nx.m ?_ | refine Nx.zm ?_ | refine Nx.zt (fun hc => ?_) (fun hc => ?_))
      | refine Nx.zx ?_ | fail
    exact Nx.ret_fn rfl [] ⟨rfl, rfl⟩ (by (exact Ent.auto))
  have hin := hl.inner _ (getD_memQ hlt)
  have hgk := hg _ (getD_memQ hlt)
  have hes := eqns_snoc hlt
  have hrb := roomR_bd hg x k
  have hrds : ∀ (W : World) (R : List Res), Rds W I R ((ad A).add (k * 2)) (eqC (l.getD k default)) := fun W R => hl.outer.rds hlt
  generalize l.getD k default = q at hin hgk hes hrds
  obtain ⟨⟨Ax, cx, ix⟩, z⟩ := q
  dsimp only at hin
  replace hrds : ∀ (W : World) (R : List Res), Rds W I R ((ad A).add (k * 2)) [.slice Ax ix.length cx, .int .i64 z] := hrds
  have hixl := hin.len
  have hz := hgk.val
  dsimp only at hz
  generalize hr0 : roomR (eqns (l.take k)) x = r0 at hrb ⊢
  have hend : roomR (eqns (l.take (k + 1))) x = if (x : Int) ∈ ix then roomS r0 z else r0 := by
    rw [hes, roomR_snoc, hr0]
    by_cases hm : (x : Int) ∈ ix
    · rw [if_pos hm, if_pos ((mem_eqn hgk).2 hm)]; rfl
    · rw [if_neg hm, if_neg fun h => hm ((mem_eqn hgk).1 h)]
  repeat' first
    | ((with_reducible refine Nx.is_wp ?_); first | refine Nx.wo ?_ | refine Nx.zp (fun hc => ?_) (fun hc => ?_))
    | (refine Nx.zo ?_; first | refine Nx.opr rfl rfl ?_ | refine Nx.indexAddr_nat rfl rfl rfl rfl rfl (by omega) (hl.outer.isSome (by omega) (by omega)) ?_ | refine Nx.loads rfl rfl rfl rfl (hrds _ _) rfl ?_ | refine Nx.so ?_ | refine Nx.sb (fun bx => ?_) | refine Nx.sa (fun A2 c2 => ?_))
    | ((with_reducible refine Nx.is_at ?_); first | refine Nx.a ?_ | refine Nx.zd ?_ | refine Nx.zs (fun hc => ?_) (fun hc => ?_))
    | ((with_reducible refine Nx.is_mix ?_); first | refine Nx.m ?_ | refine Nx.zm ?_ | refine Nx.zt (fun hc => ?_) (fun hc => ?_))
    | refine Nx.zx ?_ | fail
  revert bx; intro b7
  refine Nx.p_loop (σ := Nat) (fun j => [(1, .int .i64 (x : Int)), (5, .int .i64 (if (x : Int) ∈ ix.take j then roomS r0 z else r0)), (7, .pointer (some ⟨b7, 0, none⟩)), (10, .slice A l.length c), (11, .int .i64 l.length), (12, .int .i64 (k : Int)), (17, .slice Ax ix.length cx), (18, .int .i64 ix.length), (19, .int .i64 (j : Int))])
    (fun _ => [Blk b7 93 [.slice Ax ix.length cx, .int .i64 z], F]) (fun j => j ≤ ix.length) (fun j => ix.length - j) 0 rfl (Nat.zero_le _) ⟨rfl, by rw [List.take_zero, if_neg List.not_mem_nil]; rfl, rfl, rfl, rfl, rfl, rfl, rfl, rfl, trivial⟩ (by (exact Ent.auto)) ?_
  intro j hj
  by_cases hjl : j < ix.length
  case neg =>
    obtain rfl : j = ix.length := by omega
    rw [List.take_length, ← hend]
    repeat' first
      | ((with_reducible refine Nx.is_wp ?_); first | refine Nx.wo ?_ | refine Nx.zp (fun hc => ?_) (fun hc => ?_))
      | (refine Nx.zo ?_; first | refine Nx.opr rfl rfl ?_ | refine Nx.so ?_ | refine Nx.sb (fun bx => ?_) | refine Nx.sa (fun A2 c2 => ?_))
      | ((with_reducible refine Nx.is_at ?_); first | refine Nx.a ?_ | refine Nx.zd ?_ | refine Nx.zs (fun hc => ?_) (fun hc => ?_))
      | ((with_reducible refine Nx.is_mix ?_); first | refine Nx.m ?_ | refine Nx.zm ?_ | refine Nx.zt (fun hc => ?_) (fun hc => ?_))
      | refine Nx.zx ?_ | fail
    exact Nx.again (k + 1) hlt (by omega) ⟨rfl, rfl, rfl, rfl, rfl, trivial⟩ (by (exact Ent.auto))
  have hsn := take_snocJ hjl
  by_cases hyx : ix.getD j default = (x : Int)
  · have hno := not_mem_take hgk.asc hjl hyx
    rw [if_neg hno]
    have hyes : (if (x : Int) ∈ ix.take (j + 1) then roomS r0 z else r0) = roomS r0 z := if_pos (by rw [hsn, hyx]; simp)
    by_cases h0 : r0 = 0
    · have hS : roomS r0 z = z + 1 := if_pos (.inl h0)
      rw [hS] at hyes
      repeat' first
        | ((with_reducible refine Nx.is_wp ?_); first | refine Nx.wo ?_ | refine Nx.zp (fun hc => ?_) (fun hc => ?_))
        | (refine Nx.zo ?_; first | refine Nx.opr rfl rfl ?_ | refine Nx.indexAddr_nat rfl rfl rfl rfl rfl (by omega) (hin.isSome (by omega)) ?_ | refine Nx.load rfl rfl rfl (hin.rd (by omega)) ?_ | refine Nx.so ?_ | refine Nx.sb (fun bx => ?_) | refine Nx.sa (fun A2 c2 => ?_))
        | ((with_reducible refine Nx.is_at ?_); first | refine Nx.a ?_ | refine Nx.zd ?_ | refine Nx.zs (fun hc => ?_) (fun hc => ?_))
        | ((with_reducible refine Nx.is_mix ?_); first | refine Nx.m ?_ | refine Nx.zm ?_ | refine Nx.zt (fun hc => ?_) (fun hc => ?_))
        | refine Nx.zx ?_ | fail
      exact Nx.again (j + 1) hjl (by omega) ⟨rfl, by rw [hS, hyes]; rfl, rfl, rfl, rfl, rfl, rfl, rfl, rfl, trivial⟩ (by (exact Ent.auto))
    · by_cases h1 : z + 1 < r0
      · have hS : roomS r0 z = z + 1 := if_pos (.inr h1)
        rw [hS] at hyes
        repeat' first
          | ((with_reducible refine Nx.is_wp ?_); first | refine Nx.wo ?_ | refine Nx.zp (fun hc => ?_) (fun hc => ?_))
          | (refine Nx.zo ?_; first | refine Nx.opr rfl rfl ?_ | refine Nx.indexAddr_nat rfl rfl rfl rfl rfl (by omega) (hin.isSome (by omega)) ?_ | refine Nx.load rfl rfl rfl (hin.rd (by omega)) ?_ | refine Nx.so ?_ | refine Nx.sb (fun bx => ?_) | refine Nx.sa (fun A2 c2 => ?_))
          | ((with_reducible refine Nx.is_at ?_); first | refine Nx.a ?_ | refine Nx.zd ?_ | refine Nx.zs (fun hc => ?_) (fun hc => ?_))
          | ((with_reducible refine Nx.is_mix ?_); first | refine Nx.m ?_ | refine Nx.zm ?_ | refine Nx.zt (fun hc => ?_) (fun hc => ?_))
          | refine Nx.zx ?_ | fail
        exact Nx.again (j + 1) hjl (by omega) ⟨rfl, by rw [hS, hyes]; rfl, rfl, rfl, rfl, rfl, rfl, rfl, rfl, trivial⟩ (by (exact Ent.auto))
      · have hS : roomS r0 z = r0 := if_neg (by omega)
        rw [hS] at hyes
        repeat' first
          | ((with_reducible refine Nx.is_wp ?_); first | refine Nx.wo ?_ | refine Nx.zp (fun hc => ?_) (fun hc => ?_))
          | (refine Nx.zo ?_; first | refine Nx.opr rfl rfl ?_ | refine Nx.indexAddr_nat rfl rfl rfl rfl rfl (by omega) (hin.isSome (by omega)) ?_ | refine Nx.load rfl rfl rfl (hin.rd (by omega)) ?_ | refine Nx.so ?_ | refine Nx.sb (fun bx => ?_) | refine Nx.sa (fun A2 c2 => ?_))
          | ((with_reducible refine Nx.is_at ?_); first | refine Nx.a ?_ | refine Nx.zd ?_ | refine Nx.zs (fun hc => ?_) (fun hc => ?_))
          | ((with_reducible refine Nx.is_mix ?_); first | refine Nx.m ?_ | refine Nx.zm ?_ | refine Nx.zt (fun hc => ?_) (fun hc => ?_))
          | refine Nx.zx ?_ | fail
        exact Nx.again (j + 1) hjl (by omega) ⟨rfl, by rw [hS, hyes]; rfl, rfl, rfl, rfl, rfl, rfl, rfl, rfl, trivial⟩ (by (exact Ent.auto))
  · have hno : (if (x : Int) ∈ ix.take (j + 1) then roomS r0 z else r0) = if (x : Int) ∈ ix.take j then roomS r0 z else r0 := by
      have e : ((x : Int) ∈ ix.take j ++ [ix.getD j default]) ↔ (x : Int) ∈ ix.take j := by
        rw [List.mem_append, List.mem_singleton]
        exact ⟨fun h => h.resolve_right fun h => hyx h.symm, .inl⟩
      rw [hsn]
      by_cases hm : (x : Int) ∈ ix.take j
      · rw [if_pos hm, if_pos (e.2 hm)]
      · rw [if_neg hm, if_neg fun h => hm (e.1 h)]
    generalize hcur : (if (x : Int) ∈ ix.take j then roomS r0 z else r0) = cur at hno ⊢
    repeat' first
      | ((with_reducible refine Nx.is_wp ?_); first | refine Nx.wo ?_ | refine Nx.zp (fun hc => ?_) (fun hc => ?_))
      | (refine Nx.zo ?_; first | refine Nx.opr rfl rfl ?_ | refine Nx.indexAddr_nat rfl rfl rfl rfl rfl (by omega) (hin.isSome (by omega)) ?_ | refine Nx.load rfl rfl rfl (hin.rd (by omega)) ?_ | refine Nx.so ?_ | refine Nx.sb (fun bx => ?_) | refine Nx.sa (fun A2 c2 => ?_))
      | ((with_reducible refine Nx.is_at ?_); first | refine Nx.a ?_ | refine Nx.zd ?_ | refine Nx.zs (fun hc => ?_) (fun hc => ?_))
      | ((with_reducible refine Nx.is_mix ?_); first | refine Nx.m ?_ | refine Nx.zm ?_ | refine Nx.zt (fun hc => ?_) (fun hc => ?_))
      | refine Nx.zx ?_ | fail
    exact Nx.again (j + 1) hjl (by omega) ⟨rfl, by rw [hno]; rfl, rfl, rfl, rfl, rfl, rfl, rfl, rfl, trivial⟩ (by (exact Ent.auto))
end Go.Proofs.YtcmdemfhbekabaaGreat
/- Contracts of functions of the given program, and lemmas about plain lists and numbers: what the laws of this seat lean on. -/
namespace Go.Proofs.YtcmdemfhbekabaaGreat
open Go.Eng Go.Sol
attribute [local irreducible] opK wpList Code.wp Exit.then Exit.inBlock fnPost bodyPost Nx Calls Oper.wp Rd Rds Wr Ent Stars Blk Again Vec FnSpec wpMix QRun Stop Upto wpAt
/-! The reference's search -/
theorem sumC_app {t : List Int} {v : Int} : ∀ {cs : List Nat}, cs.Nodup → sumC (t ++ [v]) cs = sumC t cs + if t.length ∈ cs then v else 0
  | [], _ => rfl
  | c :: r, h => by
    rw [List.nodup_cons] at h
    rw [sumC, sumC, sumC_app h.2]
    rcases Nat.lt_trichotomy c t.length with hc | hc | hc
    · rw [getD_app_lt hc]
      by_cases hm : t.length ∈ r
      · rw [if_pos hm, if_pos (by simp [hm])]; omega
      · rw [if_neg hm, if_neg (fun h' => (List.mem_cons.1 h').elim (fun h' => by omega) hm)]; omega
    · subst hc
      rw [getD_app_at, if_neg h.1, if_pos (by simp), getD_ge (Nat.le_refl _)]; omega
    · rw [getD_ge (by simp; omega), getD_ge (t := t) (by omega)]
      by_cases hm : t.length ∈ r
      · rw [if_pos hm, if_pos (by simp [hm])]; omega
      · rw [if_neg hm, if_neg (fun h' => (List.mem_cons.1 h').elim (fun h' => by omega) hm)]; omega
theorem restQ_app {t : List Int} {v : Int} {q : Eqn} (h : q.1.Nodup) : restQ (t ++ [v]) q = restQ t q - if t.length ∈ q.1 then v else 0 := by
  unfold restQ; rw [sumC_app h]; omega
theorem eqns_at {l : List EqR} {i : Nat} (hi : i < l.length) : (eqns l).getD i default = eqn (l.getD i default) := by
  unfold eqns
  rw [List.getD_eq_getElem?_getD, List.getElem?_map, List.getD_eq_getElem?_getD, List.getElem?_eq_getElem hi]; rfl
theorem restE_at {l : List EqR} {t : List Int} {i : Nat} (hi : i < l.length) : (restL (eqns l) t).getD i default = restQ t (eqn (l.getD i default)) := by
  rw [restL_at (by rw [eqns_len]; exact hi), eqns_at hi]
def fitQ (t : List Int) (q : Eqn) : Bool := !decide (q.1.getLast? = some (t.length - 1)) || decide (restQ t q = 0)
theorem fitB_eq (L : List Eqn) (t : List Int) : fitB L t = L.all (fitQ t) := rfl
theorem take_most {α : Type} (x y : List α) (m : Nat) : (x.take m ++ y).take m = (x ++ y).take m := by
  rcases Nat.lt_or_ge x.length m with h | h
  · rw [List.take_of_length_le (l := x) (by omega)]
  · rw [List.take_append_of_le_length (by rw [List.length_take]; omega), List.take_take, Nat.min_self, List.take_append_of_le_length h]
def stepF (L : List Eqn) (k : Nat) (t : List Int) (n : Nat) : List (List Int) := if fitB L (t ++ [(n : Int)]) then rs L k (t ++ [(n : Int)]) else []
theorem rs_succ (L : List Eqn) (k : Nat) (t : List Int) : rs L (k + 1) t = (List.range (topF L t + 1).toNat).flatMap (stepF L k t) := rfl
/-- What the search hands back. -/
def SrPost (most : Nat) (o : List Row) (r : List (List Int)) (v : Value) (R' : List Res) : Prop :=
  ∃ (A' : Option Addr) (c' : Nat) (o' : List Row), v = .slice A' o'.length c' ∧ o'.map (·.2.2) = (o.map (·.2.2) ++ r).take most ∧ R' = [Vec 25 1 A' o'.length c' (o'.map rowV), Stars (o'.map rwR)]
theorem rest_drop {L : List Eqn} {t : List Int} {k : Nat} (hk : k < L.length) : (L.drop k).all (fun q => decide (restQ t q = 0)) = (decide ((restL L t).getD k default = 0) && (L.drop (k + 1)).all fun q => decide (restQ t q = 0)) := by
  rw [List.drop_eq_getElem_cons hk, List.all_cons, restL_at hk, List.getD_eq_getElem?_getD, List.getElem?_eq_getElem hk]; rfl
set_option maxRecDepth 10000 in
set_option maxHeartbeats 8000000 in
theorem search_end (A : Option Addr) (c : Nat) (l : List EqR) (n most : Nat) (hm9 : most ≤ 1000000) (I : PH) (t : List Int) (hn : t.length = n) (hn9 : n ≤ 4096) (At : Option Addr) (ct : Nat) (ht : Ints I At ct t) (Ar : Option Addr) (cr : Nat) (hr : Ints I Ar cr (restL (eqns l) t)) (Ao : Option Addr) (co : Nat) (o : List Row) (ho : o.length ≤ most) :
    FnSpec Tryz.prog 106 [.slice A l.length c, .int .i64 (n : Int), .int .i64 (t.length : Int), .slice At t.length ct, .slice Ar l.length cr, .slice Ao o.length co, .int .i64 (most : Int)] I
      [Vec 25 1 Ao o.length co (o.map rowV), Stars (o.map rwR)] (SrPost most o (rs (eqns l) 0 t)) := by
  have htl := ht.len
  have hrl := hr.len
  rw [restL_len, eqns_len] at hrl
  unfold SrPost
  refine FnSpec.enterP Tryz.func106 rfl Tryz.ntmps106 rfl fun w F => ?_
  by_cases hfull : o.length = most
  · repeat' first
      | ((with_reducible refine Nx.is_wp ?_); first | refine Nx.wo ?_ | refine Nx.zp (fun hc => ?_) (fun hc => ?_))
      | (refine Nx.zo ?_; first | refine Nx.opr rfl rfl ?_ | refine Nx.so ?_ | refine Nx.sb (fun bx => ?_) | refine Nx.sa (fun A2 c2 => ?_))
      | ((with_reducible refine Nx.is_at ?_); first | refine Nx.a ?_ | refine Nx.zd ?_ | refine Nx.zs (fun hc => ?_) (fun hc => ?_))
      | ((with_reducible refine Nx.is_mix ?_); first | refine Nx.m ?_ | refine Nx.zm ?_ | refine Nx.zt (fun hc => ?_) (fun hc => ?_))
      | refine Nx.zx ?_ | fail
    exact Nx.ret_fn rfl [_, _] ⟨Ao, co, o, rfl, by rw [List.take_append_of_le_length (by rw [List.length_map]; omega), List.take_of_length_le (by rw [List.length_map]; omega)], rfl⟩ (by (exact Ent.auto))
  have hlt9 : o.length < most := by omega
  rw [rs]
  repeat' first
    | ((with_reducible refine Nx.is_wp ?_); first | refine Nx.wo ?_ | refine Nx.zp (fun hc => ?_) (fun hc => ?_))
    | (refine Nx.zo ?_; first | refine Nx.opr rfl rfl ?_ | refine Nx.so ?_ | refine Nx.sb (fun bx => ?_) | refine Nx.sa (fun A2 c2 => ?_))
    | ((with_reducible refine Nx.is_at ?_); first | refine Nx.a ?_ | refine Nx.zd ?_ | refine Nx.zs (fun hc => ?_) (fun hc => ?_))
    | ((with_reducible refine Nx.is_mix ?_); first | refine Nx.m ?_ | refine Nx.zm ?_ | refine Nx.zt (fun hc => ?_) (fun hc => ?_))
    | refine Nx.zx ?_ | fail
  refine Nx.p_loop (σ := Nat) (fun k => [(3, .slice At t.length ct), (5, .slice Ao o.length co), (37, .slice Ar l.length cr), (38, .int .i64 l.length), (39, .int .i64 (k : Int))])
    (fun _ => [Vec 25 1 Ao o.length co (o.map rowV), Stars (o.map rwR), F]) (fun k => k ≤ l.length ∧ (eqns l).all (fun q => decide (restQ t q = 0)) = ((eqns l).drop k).all fun q => decide (restQ t q = 0)) (fun k => l.length - k) 0 rfl ⟨Nat.zero_le _, rfl⟩ ⟨rfl, rfl, rfl, rfl, rfl, trivial⟩ (by (exact Ent.auto)) ?_
  rintro k ⟨hk, he⟩
  by_cases hlt : k < l.length
  · have hrd : ∀ (W : World) (R : List Res), Rd W I R ((ad Ar).add (k * 1)) (.int .i64 ((restL (eqns l) t).getD k default)) := fun W R => hr.rd (by rw [restL_len, eqns_len]; exact hlt)
    rw [rest_drop (by rw [eqns_len]; exact hlt)] at he
    generalize (restL (eqns l) t).getD k default = z at he hrd
    by_cases hz : z = 0
    · rw [decide_eq_true hz, Bool.true_and] at he
      repeat' first
        | ((with_reducible refine Nx.is_wp ?_); first | refine Nx.wo ?_ | refine Nx.zp (fun hc => ?_) (fun hc => ?_))
        | (refine Nx.zo ?_; first | refine Nx.opr rfl rfl ?_ | refine Nx.indexAddr_nat rfl rfl rfl rfl rfl (by omega) (hr.isSome (by rw [restL_len, eqns_len]; omega)) ?_ | refine Nx.load rfl rfl rfl (hrd _ _) ?_ | refine Nx.so ?_ | refine Nx.sb (fun bx => ?_) | refine Nx.sa (fun A2 c2 => ?_))
        | ((with_reducible refine Nx.is_at ?_); first | refine Nx.a ?_ | refine Nx.zd ?_ | refine Nx.zs (fun hc => ?_) (fun hc => ?_))
        | ((with_reducible refine Nx.is_mix ?_); first | refine Nx.m ?_ | refine Nx.zm ?_ | refine Nx.zt (fun hc => ?_) (fun hc => ?_))
        | refine Nx.zx ?_ | fail
      exact Nx.again (k + 1) ⟨hlt, he⟩ (by omega) ⟨rfl, rfl, rfl, rfl, rfl, trivial⟩ (by (exact Ent.auto))
    · rw [decide_eq_false hz, Bool.false_and] at he
      rw [he, if_neg (by decide)]
      repeat' first
        | ((with_reducible refine Nx.is_wp ?_); first | refine Nx.wo ?_ | refine Nx.zp (fun hc => ?_) (fun hc => ?_))
        | (refine Nx.zo ?_; first | refine Nx.opr rfl rfl ?_ | refine Nx.indexAddr_nat rfl rfl rfl rfl rfl (by omega) (hr.isSome (by rw [restL_len, eqns_len]; omega)) ?_ | refine Nx.load rfl rfl rfl (hrd _ _) ?_ | refine Nx.so ?_ | refine Nx.sb (fun bx => ?_) | refine Nx.sa (fun A2 c2 => ?_))
        | ((with_reducible refine Nx.is_at ?_); first | refine Nx.a ?_ | refine Nx.zd ?_ | refine Nx.zs (fun hc => ?_) (fun hc => ?_))
        | ((with_reducible refine Nx.is_mix ?_); first | refine Nx.m ?_ | refine Nx.zm ?_ | refine Nx.zt (fun hc => ?_) (fun hc => ?_))
        | refine Nx.zx ?_ | fail
      exact Nx.ret_fn rfl [_, _] ⟨Ao, co, o, rfl, by rw [List.append_nil, List.take_of_length_le (by rw [List.length_map]; omega)], rfl⟩ (by (exact Ent.auto))
  · obtain rfl : k = l.length := by omega
    rw [List.drop_eq_nil_of_le (by rw [eqns_len]; exact Nat.le_refl _)] at he
    rw [he, List.all_nil, if_pos rfl]
    repeat' first
      | ((with_reducible refine Nx.is_wp ?_); first | refine Nx.wo ?_ | refine Nx.zp (fun hc => ?_) (fun hc => ?_))
      | (refine Nx.zo ?_; first | refine Nx.opr rfl rfl ?_ | refine Nx.so ?_ | refine Nx.sb (fun bx => ?_) | refine Nx.sa (fun A2 c2 => ?_))
      | ((with_reducible refine Nx.is_at ?_); first | refine Nx.a ?_ | refine Nx.zd ?_ | refine Nx.zs (fun hc => ?_) (fun hc => ?_))
      | ((with_reducible refine Nx.is_mix ?_); first | refine Nx.m ?_ | refine Nx.zm ?_ | refine Nx.zt (fun hc => ?_) (fun hc => ?_))
      | refine Nx.zx ?_ | fail
    refine Nx.blk_vec 0 0 1 rfl rfl (by omega) ?_
    refine Nx.at_op rfl rfl ?_
    refine Nx.append rfl rfl rfl rfl (by kernel_rfl) rfl (Src.arr ht.arr (by simp) (by omega) (fun u hu => by obtain ⟨z, _, rfl⟩ := List.mem_map.1 hu; rfl)) (by omega) fun A' c' => ?_
    rw [Nat.zero_add, List.nil_append]
    repeat' first
      | ((with_reducible refine Nx.is_wp ?_); first | refine Nx.wo ?_ | refine Nx.zp (fun hc => ?_) (fun hc => ?_))
      | (refine Nx.zo ?_; first | refine Nx.opr rfl rfl ?_ | refine Nx.so ?_ | refine Nx.sb (fun bx => ?_) | refine Nx.sa (fun A2 c2 => ?_))
      | ((with_reducible refine Nx.is_at ?_); first | refine Nx.a ?_ | refine Nx.zd ?_ | refine Nx.zs (fun hc => ?_) (fun hc => ?_))
      | ((with_reducible refine Nx.is_mix ?_); first | refine Nx.m ?_ | refine Nx.zm ?_ | refine Nx.zt (fun hc => ?_) (fun hc => ?_))
      | refine Nx.zx ?_ | fail
    refine Nx.ent (R' := [rwR (A', c', t), Stars (o.map rwR), Vec 25 1 A2 (o.length + 1) c2 (o.map rowV ++ [rowV (A', c', t)]), F]) (by unfold rwR iR; (exact Ent.auto)) (Nx.ent Ent.bundle ?_)
    exact Nx.ret_fn rfl [Vec 25 1 A2 (o.length + 1) c2 (o.map rowV ++ [rowV (A', c', t)]), Stars (o.map rwR ++ [rwR (A', c', t)])]
      ⟨A2, c2, o ++ [(A', c', t)], by rw [List.length_append]; rfl, by rw [List.map_append, List.take_of_length_le (by simp; omega)]; rfl, by rw [List.length_append, List.map_append, List.map_append]; rfl⟩ (by (exact Ent.auto))
theorem topF_le {L : List Eqn} {t : List Int} (hv : ∀ q ∈ L, 0 ≤ q.2 ∧ q.2 ≤ 1000000) : topF L t ≤ 1000000 := by
  have h1 : topF L t ≤ max 0 (roomR L t.length - 1) := ((le_gtF L).1 (Int.le_refl _)).1
  have h2 := roomR_facts (c := t.length) L fun q hq => (hv q hq).1
  by_cases h0 : roomR L t.length = 0
  · omega
  · obtain ⟨q, hq, hx⟩ : ∃ q ∈ L, t.length ∈ q.1 := Classical.byContradiction fun hno => h0 (h2.2.1.2 fun q hq hx => hno ⟨q, hq, hx⟩)
    have := (h2.2.2 h0 (roomR L t.length - 1)).1 (Int.le_refl _) q hq hx
    have := (hv q hq).2
    omega
/-- What is left of the equations behind the first i of them, when a cell has got a number. -/
def mixR (L : List Eqn) (t : List Int) (v : Int) (i : Nat) : List Int := (restL L (t ++ [v])).take i ++ (restL L t).drop i
theorem mixR_len {L : List Eqn} {t : List Int} {v : Int} {i : Nat} (hi : i ≤ L.length) : (mixR L t v i).length = L.length := by
  unfold mixR; rw [List.length_append, List.length_take, List.length_drop, restL_len, restL_len]; omega
theorem mixR_at {L : List Eqn} {t : List Int} {v : Int} {i : Nat} (hi : i < L.length) : (mixR L t v i).getD i default = restQ t (L.getD i default) := by
  have hl : ((restL L (t ++ [v])).take i).length = i := by rw [List.length_take, restL_len]; omega
  unfold mixR
  rw [List.getD_eq_getElem?_getD, List.getElem?_append_right (by omega), hl, Nat.sub_self, List.getElem?_drop, Nat.add_zero, ← List.getD_eq_getElem?_getD, restL_at hi]
theorem mixR_set {L : List Eqn} {t : List Int} {v : Int} {i : Nat} (hi : i < L.length) : (mixR L t v i).set i (restQ (t ++ [v]) (L.getD i default)) = mixR L t v (i + 1) := by
  have hl : ((restL L (t ++ [v])).take i).length = i := by rw [List.length_take, restL_len]; omega
  unfold mixR
  rw [List.set_append_right _ _ (by omega), hl, Nat.sub_self, List.drop_eq_getElem_cons (by rw [restL_len]; exact hi), List.set_cons_zero, List.take_succ_eq_append_getElem (by rw [restL_len]; exact hi), List.append_assoc]
  congr 1
  rw [List.singleton_append]
  congr 1
  unfold restL
  rw [List.getElem_map, List.getD_eq_getElem?_getD, List.getElem?_eq_getElem hi]; rfl
theorem mixR_zero (L : List Eqn) (t : List Int) (v : Int) : mixR L t v 0 = restL L t := by unfold mixR; simp
theorem mixR_all (L : List Eqn) (t : List Int) (v : Int) : mixR L t v L.length = restL L (t ++ [v]) := by
  unfold mixR
  rw [List.take_of_length_le (by rw [restL_len]; exact Nat.le_refl _), List.drop_eq_nil_of_le (by rw [restL_len]; exact Nat.le_refl _), List.append_nil]
end Go.Proofs.YtcmdemfhbekabaaGreat
/- Contracts of functions of the given program, and lemmas about plain lists and numbers: what the laws of this seat lean on. -/
namespace Go.Proofs.YtcmdemfhbekabaaGreat
open Go.Eng Go.Sol
attribute [local irreducible] opK wpList Code.wp Exit.then Exit.inBlock fnPost bodyPost Nx Calls Oper.wp Rd Rds Wr Ent Stars Blk Again Vec FnSpec wpMix QRun Stop Upto wpAt
theorem last_eqn {n : Nat} {q : EqR} (hg : GoodE n q) (x : Nat) : (eqn q).1.getLast? = some x ↔ q.1.2.2.getD (q.1.2.2.length - 1) default = (x : Int) := by
  have hne := hg.ne
  have hpos : 0 < q.1.2.2.length := List.length_pos_iff.2 hne
  have hl : q.1.2.2.getD (q.1.2.2.length - 1) default = q.1.2.2.getLast hne := by
    rw [List.getD_eq_getElem?_getD, List.getElem?_eq_getElem (by omega), List.getLast_eq_getElem]; rfl
  have h0 := (hg.lt _ (List.getLast_mem hne)).1
  rw [hl]
  unfold eqn
  rw [List.getLast?_map, List.getLast?_eq_some_getLast hne]
  simp only [Option.map_some, Option.some.injEq]
  omega
theorem set_same {l : List Int} {i : Nat} {v : Int} (h : l.getD i default = v) (hi : i < l.length) : l.set i v = l := by
  rw [List.getD_eq_getElem?_getD, List.getElem?_eq_getElem hi] at h
  have h : l[i] = v := h
  rw [← h, List.set_getElem_self]
theorem in_snoc {ix : List Int} {j : Nat} (hjl : j < ix.length) {x : Int} (hne : ix.getD j default ≠ x) : x ∈ ix.take (j + 1) ↔ x ∈ ix.take j := by
  rw [take_snocJ hjl, List.mem_append, List.mem_singleton]
  exact ⟨fun h => h.resolve_right fun h => hne h.symm, fun h => .inl h⟩
theorem ite_congr_b {α : Type} {p q : Prop} [Decidable p] [Decidable q] (h : p ↔ q) (a b : α) : (if p then a else b) = if q then a else b := by
  by_cases hp : p
  · rw [if_pos hp, if_pos (h.1 hp)]
  · rw [if_neg hp, if_neg fun hq => hp (h.2 hq)]
set_option maxRecDepth 10000 in
set_option maxHeartbeats 16000000 in
theorem rsearch_spec (A : Option Addr) (c : Nat) (l : List EqR) (n most : Nat) (hg : ∀ q ∈ l, GoodE n q) (hn9 : n ≤ 4096) (hm9 : most ≤ 1000000) (hll : l.length ≤ 100000) :
    ∀ (k : Nat) (I : PH), Eqs I A c l → ∀ (t : List Int), t.length + k = n → (∀ q ∈ eqns l, 0 ≤ restQ t q ∧ restQ t q ≤ 1000000) → ∀ (At : Option Addr) (ct : Nat), Ints I At ct t → ∀ (Ar : Option Addr) (cr : Nat), Ints I Ar cr (restL (eqns l) t) →
      ∀ (Ao : Option Addr) (co : Nat) (o : List Row), o.length ≤ most →
    FnSpec Tryz.prog 106 [.slice A l.length c, .int .i64 (n : Int), .int .i64 (t.length : Int), .slice At t.length ct, .slice Ar l.length cr, .slice Ao o.length co, .int .i64 (most : Int)] I
      [Vec 25 1 Ao o.length co (o.map rowV), Stars (o.map rwR)] (SrPost most o (rs (eqns l) k t))
  | 0, I, hl, t, hk, hb, At, ct, ht, Ar, cr, hr, Ao, co, o, ho => search_end A c l n most hm9 I t (by omega) hn9 At ct ht Ar cr hr Ao co o ho
  | k + 1, I, hl, t, hk, hb, At, ct, ht, Ar, cr, hr, Ao, co, o, ho => by
    have hR := room_spec A c l n t.length I hl hg
    have hlen := hl.len
    have htl := ht.len
    have hrbd := roomR_bd hg t.length l.length
    rw [List.take_length] at hrbd
    have hval := cells_bd hg
    have htop := topF_le (t := t) hval
    rw [rs_succ]
    unfold SrPost
    refine FnSpec.enterP Tryz.func106 rfl Tryz.ntmps106 rfl fun w F => ?_
    by_cases hfull : o.length = most
    · repeat' first
        | ((with_reducible refine Nx.is_wp ?_); first | refine Nx.wo ?_ | refine Nx.zp (fun hc => ?_) (fun hc => ?_))
        | (refine Nx.zo ?_; first | refine Nx.opr rfl rfl ?_ | refine Nx.so ?_ | refine Nx.sb (fun bx => ?_) | refine Nx.sa (fun A2 c2 => ?_))
        | ((with_reducible refine Nx.is_at ?_); first | refine Nx.a ?_ | refine Nx.zd ?_ | refine Nx.zs (fun hc => ?_) (fun hc => ?_))
        | ((with_reducible refine Nx.is_mix ?_); first | refine Nx.m ?_ | refine Nx.zm ?_ | refine Nx.zt (fun hc => ?_) (fun hc => ?_))
        | refine Nx.zx ?_ | fail
      exact Nx.ret_fn rfl [_, _] ⟨Ao, co, o, rfl, by rw [List.take_append_of_le_length (by rw [List.length_map]; omega), List.take_of_length_le (by rw [List.length_map]; omega)], rfl⟩ (by (exact Ent.auto))
    have hlt9 : o.length < most := by omega
    generalize ha0 : max 0 (roomR (eqns l) t.length - 1) = a0
    repeat' first
      | ((with_reducible refine Nx.is_wp ?_); first | refine Nx.wo ?_ | refine Nx.zp (fun hc => ?_) (fun hc => ?_))
      | (refine Nx.zo ?_; first | refine Nx.opr rfl rfl ?_ | refine Nx.callv rfl rfl rfl (by kernel_rfl) rfl hR ?_ | refine Nx.so ?_ | refine Nx.sb (fun bx => ?_) | refine Nx.sa (fun A2 c2 => ?_))
      | ((with_reducible refine Nx.is_at ?_); first | refine Nx.a ?_ | refine Nx.zd ?_ | refine Nx.zs (fun hc => ?_) (fun hc => ?_))
      | ((with_reducible refine Nx.is_mix ?_); first | refine Nx.m ?_ | refine Nx.zm ?_ | refine Nx.zt (fun hc => ?_) (fun hc => ?_))
      | refine Nx.zx ?_ | fail
    refine Nx.p_loop (σ := Nat) (fun i => [(0, .slice A l.length c), (1, .int .i64 (n : Int)), (2, .int .i64 (t.length : Int)), (3, .slice At t.length ct), (4, .slice Ar l.length cr), (5, .slice Ao o.length co), (6, .int .i64 (most : Int)), (17, .int .i64 (gtF t t.length a0 (eqns (l.take i)))), (58, .slice A l.length c), (59, .int .i64 l.length), (60, .int .i64 (i : Int))])
      (fun _ => [Vec 25 1 Ao o.length co (o.map rowV), Stars (o.map rwR), F]) (fun i => i ≤ l.length) (fun i => l.length - i) 0 rfl (Nat.zero_le _) ⟨rfl, rfl, rfl, rfl, rfl, rfl, rfl, by rw [← ha0]; rfl, rfl, rfl, rfl, trivial⟩ (by (exact Ent.auto)) ?_
    intro i hi
    by_cases hil : i < l.length
    · have hin := hl.inner _ (getD_memQ hil)
      have hgk := hg _ (getD_memQ hil)
      have hes := eqns_snoc hil
      have hrds : ∀ (W : World) (R : List Res), Rds W I R ((ad A).add (i * 2)) (eqC (l.getD i default)) := fun W R => hl.outer.rds hil
      have hrd : ∀ (W : World) (R : List Res), Rd W I R ((ad Ar).add (i * 1)) (.int .i64 (restQ t (eqn (l.getD i default)))) := fun W R => by rw [← restE_at hil]; exact hr.rd (by rw [restL_len, eqns_len]; exact hil)
      generalize l.getD i default = q at hin hgk hes hrds hrd
      obtain ⟨⟨Ax, cx, ix⟩, z⟩ := q
      dsimp only at hin
      replace hrds : ∀ (W : World) (R : List Res), Rds W I R ((ad A).add (i * 2)) [.slice Ax ix.length cx, .int .i64 z] := hrds
      have hixl := hin.len
      have hend : gtF t t.length a0 (eqns (l.take (i + 1))) = if (t.length : Int) ∈ ix then min (gtF t t.length a0 (eqns (l.take i))) (restQ t (eqn ((Ax, cx, ix), z))) else gtF t t.length a0 (eqns (l.take i)) := by
        rw [hes, gtF_snoc]
        exact ite_congr_b (mem_eqn hgk) _ _
      generalize restQ t (eqn ((Ax, cx, ix), z)) = rq at hend hrd
      generalize gtF t t.length a0 (eqns (l.take i)) = g at hend ⊢
      repeat' first
        | ((with_reducible refine Nx.is_wp ?_); first | refine Nx.wo ?_ | refine Nx.zp (fun hc => ?_) (fun hc => ?_))
        | (refine Nx.zo ?_; first | refine Nx.opr rfl rfl ?_ | refine Nx.indexAddr_nat rfl rfl rfl rfl rfl (by omega) (hl.outer.isSome (by omega) (by omega)) ?_ | refine Nx.loads rfl rfl rfl rfl (hrds _ _) rfl ?_ | refine Nx.so ?_ | refine Nx.sb (fun bx => ?_) | refine Nx.sa (fun A2 c2 => ?_))
        | ((with_reducible refine Nx.is_at ?_); first | refine Nx.a ?_ | refine Nx.zd ?_ | refine Nx.zs (fun hc => ?_) (fun hc => ?_))
        | ((with_reducible refine Nx.is_mix ?_); first | refine Nx.m ?_ | refine Nx.zm ?_ | refine Nx.zt (fun hc => ?_) (fun hc => ?_))
        | refine Nx.zx ?_ | fail
      revert bx; intro b19
      refine Nx.p_loop (σ := Nat) (fun j => [(0, .slice A l.length c), (1, .int .i64 (n : Int)), (2, .int .i64 (t.length : Int)), (3, .slice At t.length ct), (4, .slice Ar l.length cr), (5, .slice Ao o.length co), (6, .int .i64 (most : Int)), (17, .int .i64 (if (t.length : Int) ∈ ix.take j then min g rq else g)), (18, .int .i64 (i : Int)), (58, .slice A l.length c), (59, .int .i64 l.length), (60, .int .i64 (i : Int)), (66, .slice Ax ix.length cx), (67, .int .i64 ix.length), (68, .int .i64 (j : Int))])
        (fun _ => [Vec 25 1 Ao o.length co (o.map rowV), Stars (o.map rwR), F]) (fun j => j ≤ ix.length) (fun j => ix.length - j) 0 rfl (Nat.zero_le _) ⟨rfl, rfl, rfl, rfl, rfl, rfl, rfl, by rw [List.take_zero, if_neg List.not_mem_nil]; rfl, rfl, rfl, rfl, rfl, rfl, rfl, rfl, trivial⟩ (by (exact Ent.auto)) ?_
      intro j hj
      by_cases hjl : j < ix.length
      case neg =>
        obtain rfl : j = ix.length := by omega
        rw [List.take_length, ← hend]
        repeat' first
          | ((with_reducible refine Nx.is_wp ?_); first | refine Nx.wo ?_ | refine Nx.zp (fun hc => ?_) (fun hc => ?_))
          | (refine Nx.zo ?_; first | refine Nx.opr rfl rfl ?_ | refine Nx.so ?_ | refine Nx.sb (fun bx => ?_) | refine Nx.sa (fun A2 c2 => ?_))
          | ((with_reducible refine Nx.is_at ?_); first | refine Nx.a ?_ | refine Nx.zd ?_ | refine Nx.zs (fun hc => ?_) (fun hc => ?_))
          | ((with_reducible refine Nx.is_mix ?_); first | refine Nx.m ?_ | refine Nx.zm ?_ | refine Nx.zt (fun hc => ?_) (fun hc => ?_))
          | refine Nx.zx ?_ | fail
        exact Nx.again (i + 1) hil (by omega) ⟨rfl, rfl, rfl, rfl, rfl, rfl, rfl, rfl, rfl, rfl, rfl, trivial⟩ (by (exact Ent.auto))
      by_cases hyx : ix.getD j default = (t.length : Int)
      · rw [if_neg (not_mem_take hgk.asc hjl hyx)]
        have hyes : (if (t.length : Int) ∈ ix.take (j + 1) then min g rq else g) = min g rq := if_pos (by rw [take_snocJ hjl, hyx]; simp)
        repeat' first
          | ((with_reducible refine Nx.is_wp ?_); first | refine Nx.wo ?_ | refine Nx.zp (fun hc => ?_) (fun hc => ?_))
          | (refine Nx.zo ?_; first | refine Nx.opr rfl rfl ?_ | refine Nx.indexAddr_nat rfl rfl rfl rfl rfl (by omega) (hin.isSome (by omega)) ?_ | refine Nx.load rfl rfl rfl (hin.rd (by omega)) ?_ | refine Nx.indexAddr_nat rfl rfl rfl rfl rfl (by omega) (hr.isSome (by rw [restL_len, eqns_len]; omega)) ?_ | refine Nx.load rfl rfl rfl (hrd _ _) ?_ | refine Nx.so ?_ | refine Nx.sb (fun bx => ?_) | refine Nx.sa (fun A2 c2 => ?_))
          | ((with_reducible refine Nx.is_at ?_); first | refine Nx.a ?_ | refine Nx.zd ?_ | refine Nx.zs (fun hc => ?_) (fun hc => ?_))
          | ((with_reducible refine Nx.is_mix ?_); first | refine Nx.m ?_ | refine Nx.zm ?_ | refine Nx.zt (fun hc => ?_) (fun hc => ?_))
          | refine Nx.zx ?_ | fail
        exact Nx.again (j + 1) hjl (by omega) ⟨rfl, rfl, rfl, rfl, rfl, rfl, rfl, by rw [hyes]; rfl, rfl, rfl, rfl, rfl, rfl, rfl, rfl, trivial⟩ (by (exact Ent.auto))
      · have hno := ite_congr_b (in_snoc hjl hyx) (min g rq) g
        generalize (if (t.length : Int) ∈ ix.take j then min g rq else g) = cur at hno ⊢
        repeat' first
          | ((with_reducible refine Nx.is_wp ?_); first | refine Nx.wo ?_ | refine Nx.zp (fun hc => ?_) (fun hc => ?_))
          | (refine Nx.zo ?_; first | refine Nx.opr rfl rfl ?_ | refine Nx.indexAddr_nat rfl rfl rfl rfl rfl (by omega) (hin.isSome (by omega)) ?_ | refine Nx.load rfl rfl rfl (hin.rd (by omega)) ?_ | refine Nx.so ?_ | refine Nx.sb (fun bx => ?_) | refine Nx.sa (fun A2 c2 => ?_))
          | ((with_reducible refine Nx.is_at ?_); first | refine Nx.a ?_ | refine Nx.zd ?_ | refine Nx.zs (fun hc => ?_) (fun hc => ?_))
          | ((with_reducible refine Nx.is_mix ?_); first | refine Nx.m ?_ | refine Nx.zm ?_ | refine Nx.zt (fun hc => ?_) (fun hc => ?_))
          | refine Nx.zx ?_ | fail
        exact Nx.again (j + 1) hjl (by omega) ⟨rfl, rfl, rfl, rfl, rfl, rfl, rfl, by rw [hno]; rfl, rfl, rfl, rfl, rfl, rfl, rfl, rfl, trivial⟩ (by (exact Ent.auto))
    obtain rfl : i = l.length := by omega
    rw [List.take_length, show gtF t t.length a0 (eqns l) = topF (eqns l) t by rw [← ha0]; rfl]
    generalize hN : (topF (eqns l) t + 1).toNat = N
    repeat' first
      | ((with_reducible refine Nx.is_wp ?_); first | refine Nx.wo ?_ | refine Nx.zp (fun hc => ?_) (fun hc => ?_))
      | (refine Nx.zo ?_; first | refine Nx.opr rfl rfl ?_ | refine Nx.so ?_ | refine Nx.sb (fun bx => ?_) | refine Nx.sa (fun A2 c2 => ?_))
      | ((with_reducible refine Nx.is_at ?_); first | refine Nx.a ?_ | refine Nx.zd ?_ | refine Nx.zs (fun hc => ?_) (fun hc => ?_))
      | ((with_reducible refine Nx.is_mix ?_); first | refine Nx.m ?_ | refine Nx.zm ?_ | refine Nx.zt (fun hc => ?_) (fun hc => ?_))
      | refine Nx.zx ?_ | fail
    refine Nx.p_loop (σ := Nat × Option Addr × Nat × List Row) (fun s => [(0, .slice A l.length c), (1, .int .i64 (n : Int)), (2, .int .i64 (t.length : Int)), (3, .slice At t.length ct), (4, .slice Ar l.length cr), (5, .slice s.2.1 s.2.2.2.length s.2.2.1), (6, .int .i64 (most : Int)), (17, .int .i64 (topF (eqns l) t)), (22, .int .i64 (s.1 : Int))])
      (fun s => [Vec 25 1 s.2.1 s.2.2.2.length s.2.2.1 (s.2.2.2.map rowV), Stars (s.2.2.2.map rwR), F]) (fun s => s.1 ≤ N ∧ s.2.2.2.map (·.2.2) = (o.map (·.2.2) ++ (List.range s.1).flatMap (stepF (eqns l) k t)).take most) (fun s => N - s.1) (0, Ao, co, o) rfl ⟨Nat.zero_le _, by rw [List.range_zero, List.flatMap_nil, List.append_nil, List.take_of_length_le (by rw [List.length_map]; omega)]⟩ ⟨rfl, rfl, rfl, rfl, rfl, rfl, rfl, rfl, rfl, trivial⟩ (by (exact Ent.auto)) ?_
    rintro ⟨v, A4, c4, o4⟩ ⟨hv, ho4⟩
    dsimp only at hv ho4 ⊢
    have ho4l : o4.length ≤ most := by
      have := congrArg List.length ho4
      rw [List.length_map, List.length_take] at this
      omega
    by_cases hvN : v < N
    case neg =>
      obtain rfl : v = N := by omega
      repeat' first
        | ((with_reducible refine Nx.is_wp ?_); first | refine Nx.wo ?_ | refine Nx.zp (fun hc => ?_) (fun hc => ?_))
        | (refine Nx.zo ?_; first | refine Nx.opr rfl rfl ?_ | refine Nx.so ?_ | refine Nx.sb (fun bx => ?_) | refine Nx.sa (fun A2 c2 => ?_))
        | ((with_reducible refine Nx.is_at ?_); first | refine Nx.a ?_ | refine Nx.zd ?_ | refine Nx.zs (fun hc => ?_) (fun hc => ?_))
        | ((with_reducible refine Nx.is_mix ?_); first | refine Nx.m ?_ | refine Nx.zm ?_ | refine Nx.zt (fun hc => ?_) (fun hc => ?_))
        | refine Nx.zx ?_ | fail
      exact Nx.ret_fn rfl [_, _] ⟨A4, c4, o4, rfl, ho4, rfl⟩ (by (exact Ent.auto))
    have hvt : (v : Int) ≤ topF (eqns l) t := by omega
    repeat' first
      | ((with_reducible refine Nx.is_wp ?_); first | refine Nx.wo ?_ | refine Nx.zp (fun hc => ?_) (fun hc => ?_))
      | (refine Nx.zo ?_; first | refine Nx.opr rfl rfl ?_ | refine Nx.so ?_ | refine Nx.sb (fun bx => ?_) | refine Nx.sa (fun A2 c2 => ?_))
      | ((with_reducible refine Nx.is_at ?_); first | refine Nx.a ?_ | refine Nx.zd ?_ | refine Nx.zs (fun hc => ?_) (fun hc => ?_))
      | ((with_reducible refine Nx.is_mix ?_); first | refine Nx.m ?_ | refine Nx.zm ?_ | refine Nx.zt (fun hc => ?_) (fun hc => ?_))
      | refine Nx.zx ?_ | fail
    refine Nx.blk_vec 0 0 1 rfl rfl (by omega) ?_
    refine Nx.at_op rfl rfl ?_
    refine Nx.append rfl rfl rfl rfl (by kernel_rfl) rfl (Src.arr hr.arr (by simp [restL_len, eqns_len]) (by omega) (fun u hu => by obtain ⟨z, _, rfl⟩ := List.mem_map.1 hu; rfl)) (by omega) fun A' c' => ?_
    rw [Nat.zero_add, List.nil_append]
    repeat' first
      | ((with_reducible refine Nx.is_wp ?_); first | refine Nx.wo ?_ | refine Nx.zp (fun hc => ?_) (fun hc => ?_))
      | (refine Nx.zo ?_; first | refine Nx.opr rfl rfl ?_ | refine Nx.so ?_ | refine Nx.sb (fun bx => ?_) | refine Nx.sa (fun A2 c2 => ?_))
      | ((with_reducible refine Nx.is_at ?_); first | refine Nx.a ?_ | refine Nx.zd ?_ | refine Nx.zs (fun hc => ?_) (fun hc => ?_))
      | ((with_reducible refine Nx.is_mix ?_); first | refine Nx.m ?_ | refine Nx.zm ?_ | refine Nx.zt (fun hc => ?_) (fun hc => ?_))
      | refine Nx.zx ?_ | fail
    have hm0 : restL (eqns l) t = mixR (eqns l) t (v : Int) 0 := (mixR_zero _ _ _).symm
    refine Nx.p_loop (σ := Nat × Bool) (fun s => [(0, .slice A l.length c), (1, .int .i64 (n : Int)), (2, .int .i64 (t.length : Int)), (3, .slice At t.length ct), (4, .slice Ar l.length cr), (5, .slice A4 o4.length c4), (6, .int .i64 (most : Int)), (17, .int .i64 (topF (eqns l) t)), (22, .int .i64 (v : Int)), (23, .slice A' l.length c'), (24, .bool s.2), (91, .slice A l.length c), (92, .int .i64 l.length), (93, .int .i64 (s.1 : Int))])
      (fun s => [Vec 3 1 A' l.length c' ((mixR (eqns l) t (v : Int) s.1).map (Value.int .i64)), Vec 25 1 A4 o4.length c4 (o4.map rowV), Stars (o4.map rwR), F]) (fun s => s.1 ≤ l.length ∧ s.2 = (eqns (l.take s.1)).all (fitQ (t ++ [(v : Int)]))) (fun s => l.length - s.1) (0, true) rfl ⟨Nat.zero_le _, rfl⟩ ⟨rfl, rfl, rfl, rfl, rfl, rfl, rfl, rfl, rfl, rfl, rfl, rfl, rfl, rfl, trivial⟩ (by dsimp only; rw [← hm0]; (exact Ent.auto)) ?_
    rintro ⟨i, f⟩ ⟨hi, hf⟩
    dsimp only at hi hf ⊢
    have hil9 : i ≤ (eqns l).length := by rw [eqns_len]; exact hi
    have hml := mixR_len (t := t) (v := (v : Int)) hil9
    rw [eqns_len] at hml
    by_cases hil : i < l.length
    · have hgk := hg _ (getD_memQ hil)
      have hin := hl.inner _ (getD_memQ hil)
      have hes := eqns_snoc hil
      have hrds : ∀ (W : World) (R : List Res), Rds W I R ((ad A).add (i * 2)) (eqC (l.getD i default)) := fun W R => hl.outer.rds hil
      have hbq := hb (eqn (l.getD i default)) (by rw [← eqns_at hil]; exact getD_memE (by rw [eqns_len]; exact hil))
      have hma := mixR_at (t := t) (v := (v : Int)) (L := eqns l) (i := i) (by rw [eqns_len]; exact hil)
      have hms := mixR_set (t := t) (v := (v : Int)) (L := eqns l) (i := i) (by rw [eqns_len]; exact hil)
      rw [eqns_at hil] at hma hms
      rw [restQ_app (eqn_nd hgk)] at hms
      have hlq := last_eqn hgk t.length
      have hfq : fitQ (t ++ [(v : Int)]) (eqn (l.getD i default)) = (!decide ((l.getD i default).1.2.2.getD ((l.getD i default).1.2.2.length - 1) default = (t.length : Int)) || decide (restQ t (eqn (l.getD i default)) - (if t.length ∈ (eqn (l.getD i default)).1 then (v : Int) else 0) = 0)) := by
        unfold fitQ
        rw [restQ_app (eqn_nd hgk), show (t ++ [(v : Int)]).length - 1 = t.length by simp, decide_eq_decide.2 hlq]
      have hmq := mem_eqn hgk (c := t.length)
      generalize l.getD i default = q at hin hgk hes hrds hbq hma hms hfq hmq
      obtain ⟨⟨Ax, cx, ix⟩, z⟩ := q
      dsimp only at hin hfq hmq
      replace hrds : ∀ (W : World) (R : List Res), Rds W I R ((ad A).add (i * 2)) [.slice Ax ix.length cx, .int .i64 z] := hrds
      have hixl := hin.len
      have hipos : 0 < ix.length := List.length_pos_iff.2 hgk.ne
      rw [ite_congr_b hmq] at hms hfq
      generalize restQ t (eqn ((Ax, cx, ix), z)) = rq at hbq hma hms hfq
      generalize hM : mixR (eqns l) t (v : Int) i = M at hma hms hml ⊢
      repeat' first
        | ((with_reducible refine Nx.is_wp ?_); first | refine Nx.wo ?_ | refine Nx.zp (fun hc => ?_) (fun hc => ?_))
        | (refine Nx.zo ?_; first | refine Nx.opr rfl rfl ?_ | refine Nx.indexAddr_nat rfl rfl rfl rfl rfl (by omega) (hl.outer.isSome (by omega) (by omega)) ?_ | refine Nx.loads rfl rfl rfl rfl (hrds _ _) rfl ?_ | refine Nx.so ?_ | refine Nx.sb (fun bx => ?_) | refine Nx.sa (fun A2 c2 => ?_))
        | ((with_reducible refine Nx.is_at ?_); first | refine Nx.a ?_ | refine Nx.zd ?_ | refine Nx.zs (fun hc => ?_) (fun hc => ?_))
        | ((with_reducible refine Nx.is_mix ?_); first | refine Nx.m ?_ | refine Nx.zm ?_ | refine Nx.zt (fun hc => ?_) (fun hc => ?_))
        | refine Nx.zx ?_ | fail
      revert bx; intro b26
      refine Nx.p_loop (σ := Nat) (fun j => [(0, .slice A l.length c), (1, .int .i64 (n : Int)), (2, .int .i64 (t.length : Int)), (3, .slice At t.length ct), (4, .slice Ar l.length cr), (5, .slice A4 o4.length c4), (6, .int .i64 (most : Int)), (17, .int .i64 (topF (eqns l) t)), (22, .int .i64 (v : Int)), (23, .slice A' l.length c'), (24, .bool f), (25, .int .i64 (i : Int)), (26, .pointer (some ⟨b26, 0, none⟩)), (91, .slice A l.length c), (92, .int .i64 l.length), (93, .int .i64 (i : Int)), (99, .slice Ax ix.length cx), (100, .int .i64 ix.length), (101, .int .i64 (j : Int))])
        (fun j => [Vec 3 1 A' l.length c' ((if (t.length : Int) ∈ ix.take j then M.set i (rq - (v : Int)) else M).map (Value.int .i64)), Blk b26 93 [.slice Ax ix.length cx, .int .i64 z], Vec 25 1 A4 o4.length c4 (o4.map rowV), Stars (o4.map rwR), F]) (fun j => j ≤ ix.length) (fun j => ix.length - j) 0 rfl (Nat.zero_le _) ⟨rfl, rfl, rfl, rfl, rfl, rfl, rfl, rfl, rfl, rfl, rfl, rfl, rfl, rfl, rfl, rfl, rfl, rfl, rfl, trivial⟩ (by rw [List.take_zero, if_neg List.not_mem_nil]; (exact Ent.auto)) ?_
      intro j hj
      by_cases hjl : j < ix.length
      · by_cases hyx : ix.getD j default = (t.length : Int)
        · rw [if_neg (not_mem_take hgk.asc hjl hyx)]
          have hyes : (if (t.length : Int) ∈ ix.take (j + 1) then M.set i (rq - (v : Int)) else M) = M.set i (rq - (v : Int)) := if_pos (by rw [take_snocJ hjl, hyx]; simp)
          have hrv : ∀ (W : World) (R : List Res), Rd W I (Vec 3 1 A' l.length c' (M.map (Value.int .i64)) :: R) ((ad A').add (i * 1)) (.int .i64 rq) := fun W R => by rw [← hma]; exact Rd.vecEl 0 (f := Value.int .i64) (l := M) (i := i) rfl (by omega)
          refine Nx.vec_fact fun _ _ _ hA' => ?_
          repeat' first
            | ((with_reducible refine Nx.is_wp ?_); first | refine Nx.wo ?_ | refine Nx.zp (fun hc => ?_) (fun hc => ?_))
            | (refine Nx.zo ?_; first | refine Nx.opr rfl rfl ?_ | refine Nx.indexAddr_nat rfl rfl rfl rfl rfl (by omega) (hin.isSome (by omega)) ?_ | refine Nx.load rfl rfl rfl (hin.rd (by omega)) ?_ | refine Nx.indexAddr_nat rfl rfl rfl rfl rfl (by omega) (hA' (by omega)) ?_ | refine Nx.load rfl rfl rfl (hrv _ _) ?_ | refine Nx.store_of 0 (Value.int .i64) rfl rfl rfl rfl rfl rfl (by omega) ?_ | refine Nx.so ?_ | refine Nx.sb (fun bx => ?_) | refine Nx.sa (fun A2 c2 => ?_))
            | ((with_reducible refine Nx.is_at ?_); first | refine Nx.a ?_ | refine Nx.zd ?_ | refine Nx.zs (fun hc => ?_) (fun hc => ?_))
            | ((with_reducible refine Nx.is_mix ?_); first | refine Nx.m ?_ | refine Nx.zm ?_ | refine Nx.zt (fun hc => ?_) (fun hc => ?_))
            | refine Nx.zx ?_ | fail
          exact Nx.again (j + 1) hjl (by omega) ⟨rfl, rfl, rfl, rfl, rfl, rfl, rfl, rfl, rfl, rfl, rfl, rfl, rfl, rfl, rfl, rfl, rfl, rfl, rfl, trivial⟩ (by rw [hyes]; (exact Ent.auto))
        · have hno := ite_congr_b (in_snoc hjl hyx) (M.set i (rq - (v : Int))) M
          generalize (if (t.length : Int) ∈ ix.take j then M.set i (rq - (v : Int)) else M) = cur at hno ⊢
          repeat' first
            | ((with_reducible refine Nx.is_wp ?_); first | refine Nx.wo ?_ | refine Nx.zp (fun hc => ?_) (fun hc => ?_))
            | (refine Nx.zo ?_; first | refine Nx.opr rfl rfl ?_ | refine Nx.indexAddr_nat rfl rfl rfl rfl rfl (by omega) (hin.isSome (by omega)) ?_ | refine Nx.load rfl rfl rfl (hin.rd (by omega)) ?_ | refine Nx.so ?_ | refine Nx.sb (fun bx => ?_) | refine Nx.sa (fun A2 c2 => ?_))
            | ((with_reducible refine Nx.is_at ?_); first | refine Nx.a ?_ | refine Nx.zd ?_ | refine Nx.zs (fun hc => ?_) (fun hc => ?_))
            | ((with_reducible refine Nx.is_mix ?_); first | refine Nx.m ?_ | refine Nx.zm ?_ | refine Nx.zt (fun hc => ?_) (fun hc => ?_))
            | refine Nx.zx ?_ | fail
          exact Nx.again (j + 1) hjl (by omega) ⟨rfl, rfl, rfl, rfl, rfl, rfl, rfl, rfl, rfl, rfl, rfl, rfl, rfl, rfl, rfl, rfl, rfl, rfl, rfl, trivial⟩ (by rw [hno]; (exact Ent.auto))
      obtain rfl : j = ix.length := by omega
      rw [List.take_length]
      have hnew : (if (t.length : Int) ∈ ix then M.set i (rq - (v : Int)) else M) = mixR (eqns l) t (v : Int) (i + 1) := by
        rw [← hms]
        by_cases hm : (t.length : Int) ∈ ix
        · rw [if_pos hm, if_pos hm]
        · rw [if_neg hm, if_neg hm, Int.sub_zero, set_same hma (by omega)]
      have hnat : (mixR (eqns l) t (v : Int) (i + 1)).getD i default = rq - if (t.length : Int) ∈ ix then (v : Int) else 0 := by
        rw [← hms, List.getD_eq_getElem?_getD, List.getElem?_set_self (by omega)]; rfl
      have hnl : (mixR (eqns l) t (v : Int) (i + 1)).length = l.length := by rw [← hms, List.length_set]; exact hml
      rw [hnew]
      have hall : (eqns (l.take (i + 1))).all (fitQ (t ++ [(v : Int)])) = (f && fitQ (t ++ [(v : Int)]) (eqn ((Ax, cx, ix), z))) := by
        rw [hes, List.all_append, ← hf, List.all_cons, List.all_nil, Bool.and_true]
      generalize hM2 : mixR (eqns l) t (v : Int) (i + 1) = M2 at hnat hnl ⊢
      generalize (rq - if (t.length : Int) ∈ ix then (v : Int) else 0) = r2 at hnat hfq
      have hidx : (((ix.length : Int) - 1).toNat * 1) = (ix.length - 1) * 1 := by omega
      have hlr : ∀ (W : World) (R : List Res), Rd W I R ((ad Ax).add ((((ix.length : Int) - 1).toNat) * 1)) (.int .i64 (ix.getD (ix.length - 1) default)) := fun W R => by rw [hidx]; exact hin.rd (by omega)
      have hrv : ∀ (W : World) (R : List Res), Rd W I (Vec 3 1 A' l.length c' (M2.map (Value.int .i64)) :: R) ((ad A').add (i * 1)) (.int .i64 r2) := fun W R => by rw [← hnat]; exact Rd.vecEl 0 (f := Value.int .i64) (l := M2) (i := i) rfl (by omega)
      refine Nx.vec_fact fun _ _ _ hA' => ?_
      generalize ix.getD (ix.length - 1) default = lst at hlr hfq
      have hdone : fitQ (t ++ [(v : Int)]) (eqn ((Ax, cx, ix), z)) = true → (eqns (l.take (i + 1))).all (fitQ (t ++ [(v : Int)])) = f := fun h => by rw [hall, h, Bool.and_true]
      by_cases hlst : lst = (t.length : Int)
      · by_cases hr2 : r2 = 0
        · rw [decide_eq_true hr2, Bool.or_true] at hfq
          repeat' first
            | ((with_reducible refine Nx.is_wp ?_); first | refine Nx.wo ?_ | refine Nx.zp (fun hc => ?_) (fun hc => ?_))
            | (refine Nx.zo ?_; first | refine Nx.opr rfl rfl ?_ | refine Nx.indexAddr (sz := 1) rfl rfl rfl rfl rfl (by omega) (by omega) (hin.isSome (by omega)) ?_ | refine Nx.load rfl rfl rfl (hlr _ _) ?_ | refine Nx.indexAddr_nat rfl rfl rfl rfl rfl (by omega) (hA' (by omega)) ?_ | refine Nx.load rfl rfl rfl (hrv _ _) ?_ | refine Nx.so ?_ | refine Nx.sb (fun bx => ?_) | refine Nx.sa (fun A2 c2 => ?_))
            | ((with_reducible refine Nx.is_at ?_); first | refine Nx.a ?_ | refine Nx.zd ?_ | refine Nx.zs (fun hc => ?_) (fun hc => ?_))
            | ((with_reducible refine Nx.is_mix ?_); first | refine Nx.m ?_ | refine Nx.zm ?_ | refine Nx.zt (fun hc => ?_) (fun hc => ?_))
            | refine Nx.zx ?_ | fail
          exact Nx.again (i + 1, f) ⟨hil, (hdone hfq).symm⟩ (by dsimp only; omega) ⟨rfl, rfl, rfl, rfl, rfl, rfl, rfl, rfl, rfl, rfl, rfl, rfl, rfl, rfl, trivial⟩ (by dsimp only; rw [hM2]; (exact Ent.auto))
        · rw [decide_eq_false hr2, decide_eq_true hlst] at hfq
          repeat' first
            | ((with_reducible refine Nx.is_wp ?_); first | refine Nx.wo ?_ | refine Nx.zp (fun hc => ?_) (fun hc => ?_))
            | (refine Nx.zo ?_; first | refine Nx.opr rfl rfl ?_ | refine Nx.indexAddr (sz := 1) rfl rfl rfl rfl rfl (by omega) (by omega) (hin.isSome (by omega)) ?_ | refine Nx.load rfl rfl rfl (hlr _ _) ?_ | refine Nx.indexAddr_nat rfl rfl rfl rfl rfl (by omega) (hA' (by omega)) ?_ | refine Nx.load rfl rfl rfl (hrv _ _) ?_ | refine Nx.so ?_ | refine Nx.sb (fun bx => ?_) | refine Nx.sa (fun A2 c2 => ?_))
            | ((with_reducible refine Nx.is_at ?_); first | refine Nx.a ?_ | refine Nx.zd ?_ | refine Nx.zs (fun hc => ?_) (fun hc => ?_))
            | ((with_reducible refine Nx.is_mix ?_); first | refine Nx.m ?_ | refine Nx.zm ?_ | refine Nx.zt (fun hc => ?_) (fun hc => ?_))
            | refine Nx.zx ?_ | fail
          exact Nx.again (i + 1, false) ⟨hil, by dsimp only; rw [hall, hfq]; cases f <;> rfl⟩ (by dsimp only; omega) ⟨rfl, rfl, rfl, rfl, rfl, rfl, rfl, rfl, rfl, rfl, rfl, rfl, rfl, rfl, trivial⟩ (by dsimp only; rw [hM2]; (exact Ent.auto))
      · rw [decide_eq_false hlst, Bool.not_false, Bool.true_or] at hfq
        repeat' first
          | ((with_reducible refine Nx.is_wp ?_); first | refine Nx.wo ?_ | refine Nx.zp (fun hc => ?_) (fun hc => ?_))
          | (refine Nx.zo ?_; first | refine Nx.opr rfl rfl ?_ | refine Nx.indexAddr (sz := 1) rfl rfl rfl rfl rfl (by omega) (by omega) (hin.isSome (by omega)) ?_ | refine Nx.load rfl rfl rfl (hlr _ _) ?_ | refine Nx.so ?_ | refine Nx.sb (fun bx => ?_) | refine Nx.sa (fun A2 c2 => ?_))
          | ((with_reducible refine Nx.is_at ?_); first | refine Nx.a ?_ | refine Nx.zd ?_ | refine Nx.zs (fun hc => ?_) (fun hc => ?_))
          | ((with_reducible refine Nx.is_mix ?_); first | refine Nx.m ?_ | refine Nx.zm ?_ | refine Nx.zt (fun hc => ?_) (fun hc => ?_))
          | refine Nx.zx ?_ | fail
        exact Nx.again (i + 1, f) ⟨hil, (hdone hfq).symm⟩ (by dsimp only; omega) ⟨rfl, rfl, rfl, rfl, rfl, rfl, rfl, rfl, rfl, rfl, rfl, rfl, rfl, rfl, trivial⟩ (by dsimp only; rw [hM2]; (exact Ent.auto))
    obtain rfl : i = l.length := by omega
    rw [List.take_length, ← fitB_eq] at hf
    have hmall := mixR_all (eqns l) t (v : Int)
    rw [eqns_len] at hmall
    rw [hmall]
    have hnext : (o4.map (·.2.2) ++ stepF (eqns l) k t v).take most = (o.map (·.2.2) ++ (List.range (v + 1)).flatMap (stepF (eqns l) k t)).take most := by
      rw [ho4, take_most, List.append_assoc, List.range_succ, List.flatMap_append, List.flatMap_cons, List.flatMap_nil, List.append_nil]
    cases f with
    | false =>
      have hst : stepF (eqns l) k t v = [] := by unfold stepF; rw [← hf]; rfl
      rw [hst, List.append_nil, List.take_of_length_le (by rw [List.length_map]; exact ho4l)] at hnext
      repeat' first
        | ((with_reducible refine Nx.is_wp ?_); first | refine Nx.wo ?_ | refine Nx.zp (fun hc => ?_) (fun hc => ?_))
        | (refine Nx.zo ?_; first | refine Nx.opr rfl rfl ?_ | refine Nx.so ?_ | refine Nx.sb (fun bx => ?_) | refine Nx.sa (fun A2 c2 => ?_))
        | ((with_reducible refine Nx.is_at ?_); first | refine Nx.a ?_ | refine Nx.zd ?_ | refine Nx.zs (fun hc => ?_) (fun hc => ?_))
        | ((with_reducible refine Nx.is_mix ?_); first | refine Nx.m ?_ | refine Nx.zm ?_ | refine Nx.zt (fun hc => ?_) (fun hc => ?_))
        | refine Nx.zx ?_ | fail
      exact Nx.again (v + 1, A4, c4, o4) ⟨hvN, hnext⟩ (by dsimp only; omega) ⟨rfl, rfl, rfl, rfl, rfl, rfl, rfl, rfl, rfl, trivial⟩ (by (exact Ent.auto))
    | true =>
      have hst : stepF (eqns l) k t v = rs (eqns l) k (t ++ [(v : Int)]) := by unfold stepF; rw [← hf]; rfl
      rw [hst] at hnext
      have hb2 : ∀ q ∈ eqns l, 0 ≤ restQ (t ++ [(v : Int)]) q ∧ restQ (t ++ [(v : Int)]) q ≤ 1000000 := fun q hq => by
        have h1 := hb q hq
        have hnd : q.1.Nodup := by
          obtain ⟨x, hx, rfl⟩ := List.mem_map.1 hq
          exact eqn_nd (hg x hx)
        rw [restQ_app hnd]
        by_cases hm : t.length ∈ q.1
        · rw [if_pos hm]
          have := ((le_gtF (eqns l)).1 (show (v : Int) ≤ gtF t t.length (max 0 (roomR (eqns l) t.length - 1)) (eqns l) from hvt)).2 q hq hm
          omega
        · rw [if_neg hm]; omega
      have htl1 : (t ++ [(v : Int)]).length = t.length + 1 := by simp
      repeat' first
        | ((with_reducible refine Nx.is_wp ?_); first | refine Nx.wo ?_ | refine Nx.zp (fun hc => ?_) (fun hc => ?_))
        | (refine Nx.zo ?_; first | refine Nx.opr rfl rfl ?_ | refine Nx.so ?_ | refine Nx.sb (fun bx => ?_) | refine Nx.sa (fun A2 c2 => ?_))
        | ((with_reducible refine Nx.is_at ?_); first | refine Nx.a ?_ | refine Nx.zd ?_ | refine Nx.zs (fun hc => ?_) (fun hc => ?_))
        | ((with_reducible refine Nx.is_mix ?_); first | refine Nx.m ?_ | refine Nx.zm ?_ | refine Nx.zt (fun hc => ?_) (fun hc => ?_))
        | refine Nx.zx ?_ | fail
      refine Nx.blk_vec 0 0 1 rfl rfl (by omega) ?_
      refine Nx.at_op rfl rfl ?_
      refine Nx.append rfl rfl rfl rfl (by kernel_rfl) rfl (Src.arr ht.arr (by simp) (by omega) (fun u hu => by obtain ⟨z, _, rfl⟩ := List.mem_map.1 hu; rfl)) (by omega) fun A6 c6 => ?_
      rw [Nat.zero_add, List.nil_append]
      repeat' first
        | ((with_reducible refine Nx.is_wp ?_); first | refine Nx.wo ?_ | refine Nx.zp (fun hc => ?_) (fun hc => ?_))
        | (refine Nx.zo ?_; first | refine Nx.opr rfl rfl ?_ | refine Nx.so ?_ | refine Nx.sb (fun bx => ?_) | refine Nx.sa (fun A2 c2 => ?_))
        | ((with_reducible refine Nx.is_at ?_); first | refine Nx.a ?_ | refine Nx.zd ?_ | refine Nx.zs (fun hc => ?_) (fun hc => ?_))
        | ((with_reducible refine Nx.is_mix ?_); first | refine Nx.m ?_ | refine Nx.zm ?_ | refine Nx.zt (fun hc => ?_) (fun hc => ?_))
        | refine Nx.zx ?_ | fail
      refine Nx.ent (R' := [iR A2 c2 (t ++ [(v : Int)]), iR A' c' (restL (eqns l) (t ++ [(v : Int)])), Vec 25 1 A4 o4.length c4 (o4.map rowV), Stars (o4.map rwR), F]) (by unfold iR; rw [htl1, restL_len, eqns_len, List.map_append]; (exact Ent.auto)) ?_
      refine Nx.freezeAt 0 rfl fun I2 m2 hI2 hm2 h2 => ?_
      refine Nx.freezeAt 0 rfl fun I3 m3 hI3 hm3 h3 => ?_
      have ih := rsearch_spec A c l n most hg hn9 hm9 hll k I3 (hl.mono (hI2.trans hI3)) (t ++ [(v : Int)]) (by rw [htl1]; omega) hb2 A2 c2 ((show Ints I2 A2 c2 (t ++ [(v : Int)]) from Vec.sliceOf (t := 3) hm2 h2).mono hI3) A' c' (Vec.sliceOf (t := 3) hm3 h3) A4 c4 o4 ho4l
      rw [htl1, Int.natCast_add] at ih
      unfold SrPost at ih
      rw [hnext] at ih
      repeat' first
        | ((with_reducible refine Nx.is_wp ?_); first | refine Nx.wo ?_ | refine Nx.zp (fun hc => ?_) (fun hc => ?_))
        | (refine Nx.zo ?_; first | refine Nx.opr rfl rfl ?_ | (refine Nx.call rfl rfl rfl (by kernel_rfl) rfl ih (by (exact Ent.auto)) ?_; rintro _ _ ⟨A5, c5, o5, rfl, ho5, rfl⟩) | refine Nx.so ?_ | refine Nx.sb (fun bx => ?_) | refine Nx.sa (fun A2 c2 => ?_))
        | ((with_reducible refine Nx.is_at ?_); first | refine Nx.a ?_ | refine Nx.zd ?_ | refine Nx.zs (fun hc => ?_) (fun hc => ?_))
        | ((with_reducible refine Nx.is_mix ?_); first | refine Nx.m ?_ | refine Nx.zm ?_ | refine Nx.zt (fun hc => ?_) (fun hc => ?_))
        | refine Nx.zx ?_ | fail
      exact Nx.imm_le (hI2.trans hI3) (Nx.again (v + 1, A5, c5, o5) ⟨hvN, ho5⟩ (by dsimp only; omega) ⟨rfl, rfl, rfl, rfl, rfl, rfl, rfl, rfl, rfl, trivial⟩ (by (exact Ent.auto)))
end Go.Proofs.YtcmdemfhbekabaaGreat
