/- Contracts of functions of the given program, and lemmas about plain lists and numbers: what the laws of this seat lean on. -/
import Derived.Test.YtpcnapidlhpbkaaGreatDoorBh9
namespace Go.Proofs.YtpcnapidlhpbkaaGreatDoor
open Go.Eng
attribute [local irreducible] opK wpList Code.wp Exit.then Exit.inBlock fnPost bodyPost Nx Calls Oper.wp Rd Rds Wr Ent Stars Blk Again Vec FnSpec wpMix QRun Stop Upto wpAt
/-! Made tables and made views -/
abbrev Bytes := SliceOf (fun x : Int => Value.int .u8 x)
structure CodesOk (I : PH) (A : Option Addr) (c : Nat) (L : List Int) : Prop where
  sl : Bytes I A c L
  each : ∀ x ∈ L, 0 ≤ x ∧ x < 256
theorem CodesOk.mono {I I' : PH} {A : Option Addr} {c : Nat} {L : List Int} (hle : PH.le I I') (h : CodesOk I A c L) : CodesOk I' A c L := ⟨h.sl.mono hle, h.each⟩
def CodesR (b : Nat) (A : Option Addr) (c : Nat) (L : List Int) (k : Nat) : Res := Blk b 83 [.slice A L.length c, .int .i64 (k : Int)]
set_option maxHeartbeats 8000000 in
theorem Next_any (b : Nat) (A : Option Addr) (c : Nat) (L : List Int) (k : Nat) (n : Int) (I : PH) (hL : CodesOk I A c L) (hk : k ≤ L.length) (hn : 1 ≤ n ∧ n ≤ 1000000) :
    FnSpec Tryz.prog 13 [.pointer (some ⟨b, 0, none⟩), .int .i64 n] I [CodesR b A c L k]
      (fun v R' => ∃ (r : Int) (k' : Nat), v = .int .i64 r ∧ (0 ≤ r ∧ r < n) ∧ k' ≤ L.length ∧ R' = [CodesR b A c L k']) := Next_spec b A c L k n I hL.sl hL.each hk hn
set_option maxHeartbeats 2000000 in
set_option maxRecDepth 10000 in
theorem Cells_spec (b : Nat) (A B : Option Addr) (c cs : Nat) (L l : List Int) (k : Nat) (most : Int) (I : PH) (hL : CodesOk I A c L) (hk : k ≤ L.length) (hl : Ints I B cs l) (hs : Sizes l) (hm : 0 ≤ most ∧ most ≤ 1000) :
    FnSpec Tryz.prog 63 [.pointer (some ⟨b, 0, none⟩), .agg #[.slice B l.length cs], .int .i64 most] I [CodesR b A c L k]
      (fun v R' => ∃ (bt : Nat) (t : List Int) (k' : Nat), v = .slice (some ⟨bt, 0, none⟩) t.length t.length ∧ t.length = (prod l).toNat ∧ (∀ j, j < t.length → 0 ≤ t.getD j default ∧ t.getD j default ≤ most) ∧ k' ≤ L.length ∧
        R' = [Vec 3 1 (some ⟨bt, 0, none⟩) t.length t.length (t.map (Value.int .i64)), CodesR b A c L k']) := by
  have hpr := hs.bound (k := l.length) (Nat.le_refl _)
  rw [List.take_length] at hpr
  refine FnSpec.enterP Tryz.func63 rfl Tryz.ntmps63 rfl fun w F => ?_
  repeat' first
    | ((with_reducible refine Nx.is_wp ?_); first | refine Nx.wo ?_ | refine Nx.zp (fun hc => ?_) (fun hc => ?_))
    | (refine Nx.zo ?_; first | refine Nx.opr rfl rfl ?_ | refine Nx.callv rfl rfl rfl (by kernel_rfl) rfl (RCount_spec _ _ _ _ hl hs) ?_ | refine Nx.so ?_ | refine Nx.sb (fun bx => ?_) | refine Nx.sa (fun A2 c2 => ?_))
    | ((with_reducible refine Nx.is_at ?_); first | refine Nx.a ?_ | refine Nx.zd ?_ | refine Nx.zs (fun hc => ?_) (fun hc => ?_))
    | ((with_reducible refine Nx.is_mix ?_); first | refine Nx.m ?_ | refine Nx.zm ?_ | refine Nx.zt (fun hc => ?_) (fun hc => ?_))
    | refine Nx.zx ?_ | fail
  rw [show prod l = (((prod l).toNat : Nat) : Int) by omega]
  generalize hP : (prod l).toNat = P at hpr ⊢
  have hP48 : P ≤ 4096 := by omega
  repeat' first
    | ((with_reducible refine Nx.is_wp ?_); first | refine Nx.wo ?_ | refine Nx.zp (fun hc => ?_) (fun hc => ?_))
    | (refine Nx.zo ?_; first | refine Nx.opr rfl rfl ?_ | refine Nx.so ?_ | refine Nx.sb (fun bx => ?_) | refine Nx.sa (fun A2 c2 => ?_))
    | ((with_reducible refine Nx.is_at ?_); first | refine Nx.a ?_ | refine Nx.zd ?_ | refine Nx.zs (fun hc => ?_) (fun hc => ?_))
    | ((with_reducible refine Nx.is_mix ?_); first | refine Nx.m ?_ | refine Nx.zm ?_ | refine Nx.zt (fun hc => ?_) (fun hc => ?_))
    | refine Nx.zx ?_ | fail
  refine Nx.p_loop (σ := Nat × Nat × List Int) (fun s => [(0, .pointer (some ⟨b, 0, none⟩)), (2, .int .i64 most), (7, .slice (some ⟨bx, 0, none⟩) P P), (12, .slice (some ⟨bx, 0, none⟩) P P), (13, .int .i64 (P : Int)), (14, .int .i64 (s.1 : Int))])
    (fun s => [Vec 3 1 (some ⟨bx, 0, none⟩) P P (s.2.2.map (Value.int .i64)), CodesR b A c L s.2.1, F]) (fun s => s.1 ≤ P ∧ s.2.1 ≤ L.length ∧ s.2.2.length = P ∧ ∀ j, j < P → 0 ≤ s.2.2.getD j default ∧ s.2.2.getD j default ≤ most) (fun s => P - s.1) (0, k, List.replicate P 0) rfl
    ⟨Nat.zero_le _, hk, by simp, fun j hj => by rw [List.getD_eq_getElem?_getD, List.getElem?_replicate, if_pos hj]; exact ⟨Int.le_refl _, hm.1⟩⟩ ⟨rfl, rfl, rfl, rfl, rfl, rfl, trivial⟩ (by (exact Ent.auto)) ?_
  rintro ⟨i, kc, t⟩ ⟨hi, hkc, htl, hte⟩
  dsimp only at hi hkc htl hte ⊢
  repeat' first
    | ((with_reducible refine Nx.is_wp ?_); first | refine Nx.wo ?_ | refine Nx.zp (fun hc => ?_) (fun hc => ?_))
    | (refine Nx.zo ?_; first | refine Nx.opr rfl rfl ?_ | refine Nx.so ?_ | refine Nx.sb (fun bx => ?_) | refine Nx.sa (fun A2 c2 => ?_))
    | ((with_reducible refine Nx.is_at ?_); first | refine Nx.a ?_ | refine Nx.zd ?_ | refine Nx.zs (fun hc => ?_) (fun hc => ?_))
    | ((with_reducible refine Nx.is_mix ?_); first | refine Nx.m ?_ | refine Nx.zm ?_ | refine Nx.zt (fun hc => ?_) (fun hc => ?_))
    | refine Nx.zx ?_ | fail
  · refine Nx.at_op rfl rfl ?_
    refine Nx.call rfl rfl rfl (by kernel_rfl) rfl (Next_any b A c L kc (most + 1) I hL hkc (by omega)) (by (exact Ent.auto)) ?_
    rintro v R' ⟨r, kc2, rfl, hr, hkc2, rfl⟩
    repeat' first
      | ((with_reducible refine Nx.is_wp ?_); first | refine Nx.wo ?_ | refine Nx.zp (fun hc => ?_) (fun hc => ?_))
      | (refine Nx.zo ?_; first | refine Nx.opr rfl rfl ?_ | refine Nx.indexAddr_nat rfl rfl rfl rfl rfl (by omega) rfl ?_ | refine Nx.so ?_ | refine Nx.sb (fun bx => ?_) | refine Nx.sa (fun A2 c2 => ?_))
      | ((with_reducible refine Nx.is_at ?_); first | refine Nx.a ?_ | refine Nx.zd ?_ | refine Nx.zs (fun hc => ?_) (fun hc => ?_))
      | ((with_reducible refine Nx.is_mix ?_); first | refine Nx.m ?_ | refine Nx.zm ?_ | refine Nx.zt (fun hc => ?_) (fun hc => ?_))
      | refine Nx.zx ?_ | fail
    refine Nx.again (i + 1, kc2, t.set i r) ⟨by dsimp only; omega, hkc2, by dsimp only; rw [List.length_set]; exact htl, fun j hj => ?_⟩ (by dsimp only; omega) ⟨rfl, rfl, rfl, rfl, rfl, rfl, trivial⟩ (by (exact Ent.auto))
    dsimp only
    by_cases hij : i = j
    · subst hij; rw [getD_set_eq (by omega)]; omega
    · rw [getD_set_ne hij]; exact hte j hj
  · refine Nx.ret_fn rfl [_, _] ⟨bx, t, kc, by rw [htl], by rw [htl, Int.toNat_natCast], fun j hj => hte j (by omega), hkc, by rw [htl]⟩ (by (exact Ent.auto))
def rowR (r : Row) : Res := Vec 3 1 r.1 r.2.2.length r.2.1 (r.2.2.map (Value.int .i64))
def ViewR (B : Option Addr) (cv : Nat) (v : List Row) : Res := Stars [Vec 31 1 B v.length cv (v.map rowV), Stars (v.map rowR)]
theorem ViewR.rows {B : Option Addr} {cv : Nat} {v : List Row} {m I' : PH} (hm : PH.le m I') (h : ViewR B cv v m) : RowsOf I' B cv v := by
  obtain ⟨m1, h1le, h1⟩ := Stars.get 0 h rfl
  obtain ⟨m2, h2le, h2⟩ := Stars.get 1 h rfl
  refine ⟨Vec.sliceOf (h1le.trans hm) h1, fun r hr => ?_⟩
  obtain ⟨k, hk, he⟩ := List.mem_iff_getElem.1 hr
  obtain ⟨m3, h3le, h3⟩ := Stars.get k (r := rowR r) h2 (by rw [nthL_eq, List.getElem?_map, List.getElem?_eq_getElem hk, he]; rfl)
  exact Vec.sliceOf ((h3le.trans h2le).trans hm) h3
theorem numb_snoc : ∀ (l : List Int) (g nx n : Int), numb l nx = some n → ¬(g < -1 ∨ n < g) → numb (l ++ [g]) nx = some (if g = n then n + 1 else n)
  | [], g, nx, n, h, hg => by
    simp only [numb] at h
    obtain rfl := Option.some.inj h
    simp only [List.nil_append, numb]
    rw [if_neg hg]
  | x :: r, g, nx, n, h, hg => by
    simp only [numb, List.cons_append] at h ⊢
    split at h
    · cases h
    · rename_i hx
      rw [if_neg hx]
      exact numb_snoc r g _ n h hg
structure VOk (P : Nat) (i : Nat) (gs : List Int) (nx : Int) : Prop where
  le : i ≤ P
  len : gs.length = P
  num : numb (gs.take i) 0 = some nx
  bd : 0 ≤ nx ∧ nx ≤ i
  pos : 0 < i → 1 ≤ nx
theorem take_set_succ {gs : List Int} {i : Nat} {g : Int} (h : i < gs.length) : (gs.set i g).take (i + 1) = gs.take i ++ [g] := by
  rw [List.take_succ_eq_append_getElem (by rw [List.length_set]; exact h), List.take_set_of_le (Nat.le_refl _)]
  simp
theorem VOk.eq {P i : Nat} {gs : List Int} {nx g : Int} (h : VOk P i gs nx) (hi : i < P) (hg : g = nx) : VOk P (i + 1) (gs.set i g) (nx + 1) := by
  have h1 := h.bd
  refine ⟨hi, by rw [List.length_set]; exact h.len, ?_, by omega, by omega⟩
  rw [take_set_succ (by rw [h.len]; exact hi), numb_snoc _ g 0 nx h.num (by omega), if_pos hg]
theorem VOk.ne {P i : Nat} {gs : List Int} {nx g : Int} (h : VOk P i gs nx) (hi : i < P) (hg : -1 ≤ g ∧ g < nx) (h0 : 0 < i) : VOk P (i + 1) (gs.set i g) nx := by
  have h1 := h.bd
  have h2 := h.pos h0
  refine ⟨hi, by rw [List.length_set]; exact h.len, ?_, by omega, by omega⟩
  rw [take_set_succ (by rw [h.len]; exact hi), numb_snoc _ g 0 nx h.num (by omega), if_neg (by omega)]
theorem VOk.done {P : Nat} {gs : List Int} {nx : Int} (h : VOk P P gs nx) (hP : 0 < P) : numbB gs = true := by
  have h1 := h.num
  rw [List.take_of_length_le (by rw [h.len]; exact Nat.le_refl _)] at h1
  unfold numbB
  rw [h1]
  exact decide_eq_true (by have := h.pos hP; omega)
theorem getD_app_l {α : Type} {v : List α} {x d : α} {j : Nat} (h : j < v.length) : (v ++ [x]).getD j d = v.getD j d := by
  rw [List.getD_eq_getElem?_getD, List.getElem?_append_left h, List.getD_eq_getElem?_getD]
theorem getD_app_r {α : Type} {v : List α} {x d : α} : (v ++ [x]).getD v.length d = x := by
  rw [List.getD_eq_getElem?_getD, List.getElem?_append_right (Nat.le_refl _), Nat.sub_self]; rfl
set_option maxRecDepth 10000 in
set_option maxHeartbeats 1000000 in
theorem View_made (b : Nat) (A B : Option Addr) (c cs : Nat) (L l : List Int) (k : Nat) (I : PH) (hL : CodesOk I A c L) (hk : k ≤ L.length) (hl : Ints I B cs l) (hs : Sizes l) :
    FnSpec Tryz.prog 120 [.pointer (some ⟨b, 0, none⟩), .agg #[.slice B l.length cs]] I [CodesR b A c L k]
      (fun u R' => ∃ (Av : Option Addr) (cv : Nat) (v : List Row) (k' : Nat), u = .agg #[.slice Av v.length cv] ∧ Viewed l v ∧ k' ≤ L.length ∧ R' = [ViewR Av cv v, CodesR b A c L k']) := by
  have hlen := hl.len
  have hd := hs.dims
  refine FnSpec.enterP Tryz.func120 rfl Tryz.ntmps120 rfl fun w F => ?_
  repeat' first
    | ((with_reducible refine Nx.is_wp ?_); first | refine Nx.wo ?_ | refine Nx.zp (fun hc => ?_) (fun hc => ?_))
    | (refine Nx.zo ?_; first | refine Nx.opr rfl rfl ?_ | refine Nx.so ?_ | refine Nx.sb (fun bx => ?_) | refine Nx.sa (fun A2 c2 => ?_))
    | ((with_reducible refine Nx.is_at ?_); first | refine Nx.a ?_ | refine Nx.zd ?_ | refine Nx.zs (fun hc => ?_) (fun hc => ?_))
    | ((with_reducible refine Nx.is_mix ?_); first | refine Nx.m ?_ | refine Nx.zm ?_ | refine Nx.zt (fun hc => ?_) (fun hc => ?_))
    | refine Nx.zx ?_ | fail
  rename_i b3 b4
  revert bx; intro b5
  refine Nx.p_loop (σ := Nat × Nat × Option Addr × Nat × List Row) (fun s => [(0, .pointer (some ⟨b, 0, none⟩)), (4, .pointer (some ⟨b4, 0, none⟩)), (5, .pointer (some ⟨b5, 0, none⟩)), (13, .slice B l.length cs), (14, .int .i64 l.length), (15, .int .i64 (s.1 : Int))])
    (fun s => [Blk b5 114 [.slice s.2.2.1 s.1 s.2.2.2.1], Vec 31 1 s.2.2.1 s.1 s.2.2.2.1 (s.2.2.2.2.map rowV), Stars (s.2.2.2.2.map rowR), CodesR b A c L s.2.1, Blk b4 114 [.slice none 0 0], F])
    (fun s => s.1 ≤ l.length ∧ s.2.1 ≤ L.length ∧ s.2.2.2.2.length = s.1 ∧ ∀ j, j < s.1 → ((s.2.2.2.2.getD j default).2.2.length : Int) = l.getD j default ∧ numbB (s.2.2.2.2.getD j default).2.2 = true) (fun s => l.length - s.1) (0, k, none, 0, []) rfl
    ⟨Nat.zero_le _, hk, rfl, fun j hj => absurd hj (Nat.not_lt_zero _)⟩ ⟨rfl, rfl, rfl, rfl, rfl, rfl, trivial⟩ ?_ ?_
  · exact ((Ent.vec_nil _ _ _).trans (Ent.stars_nil _)).trans (by (exact Ent.auto))
  rintro ⟨i, kc, Av, cv, v⟩ ⟨hi, hkc, hvl, hve⟩
  dsimp only at hi hkc hvl hve ⊢
  have hat := fun h => hs.at (k := i) h
  by_cases hlt : i < l.length
  · have hat := hat hlt
    repeat' first
      | ((with_reducible refine Nx.is_wp ?_); first | refine Nx.wo ?_ | refine Nx.zp (fun hc => ?_) (fun hc => ?_))
      | (refine Nx.zo ?_; first | refine Nx.opr rfl rfl ?_ | refine Nx.indexAddr_nat rfl rfl rfl rfl rfl (by omega) (hl.isSome (by omega)) ?_ | refine Nx.load rfl rfl rfl (hl.rd (by omega)) ?_ | refine Nx.so ?_ | refine Nx.sb (fun bx => ?_) | refine Nx.sa (fun A2 c2 => ?_))
      | ((with_reducible refine Nx.is_at ?_); first | refine Nx.a ?_ | refine Nx.zd ?_ | refine Nx.zs (fun hc => ?_) (fun hc => ?_))
      | ((with_reducible refine Nx.is_mix ?_); first | refine Nx.m ?_ | refine Nx.zm ?_ | refine Nx.zt (fun hc => ?_) (fun hc => ?_))
      | refine Nx.zx ?_ | fail
    obtain ⟨n, hn⟩ : ∃ n : Nat, l.getD i default = n := ⟨(l.getD i default).toNat, by omega⟩
    rw [hn] at hat ⊢
    repeat' first
      | ((with_reducible refine Nx.is_wp ?_); first | refine Nx.wo ?_ | refine Nx.zp (fun hc => ?_) (fun hc => ?_))
      | (refine Nx.zo ?_; first | refine Nx.opr rfl rfl ?_ | refine Nx.so ?_ | refine Nx.sb (fun bx => ?_) | refine Nx.sa (fun A2 c2 => ?_))
      | ((with_reducible refine Nx.is_at ?_); first | refine Nx.a ?_ | refine Nx.zd ?_ | refine Nx.zs (fun hc => ?_) (fun hc => ?_))
      | ((with_reducible refine Nx.is_mix ?_); first | refine Nx.m ?_ | refine Nx.zm ?_ | refine Nx.zt (fun hc => ?_) (fun hc => ?_))
      | refine Nx.zx ?_ | fail
    refine Nx.p_loop (σ := Nat × Nat × List Int × Int) (fun s => [(0, .pointer (some ⟨b, 0, none⟩)), (4, .pointer (some ⟨b4, 0, none⟩)), (5, .pointer (some ⟨b5, 0, none⟩)), (13, .slice B l.length cs), (14, .int .i64 l.length), (15, .int .i64 (i : Int)), (8, .slice (some ⟨bx, 0, none⟩) n n), (9, .int .i64 s.2.2.2), (21, .slice (some ⟨bx, 0, none⟩) n n), (22, .int .i64 (n : Int)), (23, .int .i64 (s.1 : Int))])
      (fun s => [Vec 3 1 (some ⟨bx, 0, none⟩) n n (s.2.2.1.map (Value.int .i64)), Blk b5 114 [.slice Av i cv], Vec 31 1 Av i cv (v.map rowV), Stars (v.map rowR), CodesR b A c L s.2.1, Blk b4 114 [.slice none 0 0], F])
      (fun s => VOk n s.1 s.2.2.1 s.2.2.2 ∧ s.2.1 ≤ L.length) (fun s => n - s.1) (0, kc, List.replicate n 0, 0) rfl
      ⟨⟨Nat.zero_le _, by simp, rfl, by simp, fun h => absurd h (Nat.lt_irrefl _)⟩, hkc⟩ ⟨rfl, rfl, rfl, rfl, rfl, rfl, rfl, rfl, rfl, rfl, rfl, trivial⟩ (by (exact Ent.auto)) ?_
    rintro ⟨j, kj, gs, nx⟩ ⟨hok, hkj⟩
    dsimp only at hok hkj ⊢
    have hjn := hok.le
    have hnx := hok.bd
    have hgl := hok.len
    by_cases hjl : j < n
    · repeat' first
        | ((with_reducible refine Nx.is_wp ?_); first | refine Nx.wo ?_ | refine Nx.zp (fun hc => ?_) (fun hc => ?_))
        | (refine Nx.zo ?_; first | refine Nx.opr rfl rfl ?_ | refine Nx.so ?_ | refine Nx.sb (fun bx => ?_) | refine Nx.sa (fun A2 c2 => ?_))
        | ((with_reducible refine Nx.is_at ?_); first | refine Nx.a ?_ | refine Nx.zd ?_ | refine Nx.zs (fun hc => ?_) (fun hc => ?_))
        | ((with_reducible refine Nx.is_mix ?_); first | refine Nx.m ?_ | refine Nx.zm ?_ | refine Nx.zt (fun hc => ?_) (fun hc => ?_))
        | refine Nx.zx ?_ | fail
      refine Nx.at_op rfl rfl ?_
      refine Nx.call rfl rfl rfl (by kernel_rfl) rfl (Next_any b A c L kj (nx + 2) I hL hkj (by omega)) (by (exact Ent.auto)) ?_
      rintro u R' ⟨r, k1, rfl, hr, hk1, rfl⟩
      repeat' first
        | ((with_reducible refine Nx.is_wp ?_); first | refine Nx.wo ?_ | refine Nx.zp (fun hc => ?_) (fun hc => ?_))
        | (refine Nx.zo ?_; first | refine Nx.opr rfl rfl ?_ | refine Nx.so ?_ | refine Nx.sb (fun bx => ?_) | refine Nx.sa (fun A2 c2 => ?_))
        | ((with_reducible refine Nx.is_at ?_); first | refine Nx.a ?_ | refine Nx.zd ?_ | refine Nx.zs (fun hc => ?_) (fun hc => ?_))
        | ((with_reducible refine Nx.is_mix ?_); first | refine Nx.m ?_ | refine Nx.zm ?_ | refine Nx.zt (fun hc => ?_) (fun hc => ?_))
        | refine Nx.zx ?_ | fail
      all_goals
        refine Nx.at_op rfl rfl ?_
        refine Nx.call rfl rfl rfl (by kernel_rfl) rfl (Next_any b A c L k1 8 I hL hk1 (by omega)) (by (exact Ent.auto)) ?_
        rintro u R' ⟨q, k2, rfl, hq, hk2, rfl⟩
        repeat' first
          | ((with_reducible refine Nx.is_wp ?_); first | refine Nx.wo ?_ | refine Nx.zp (fun hc => ?_) (fun hc => ?_))
          | (refine Nx.zo ?_; first | refine Nx.opr rfl rfl ?_ | refine Nx.indexAddr_nat rfl rfl rfl rfl rfl (by omega) rfl ?_ | refine Nx.so ?_ | refine Nx.sb (fun bx => ?_) | refine Nx.sa (fun A2 c2 => ?_))
          | ((with_reducible refine Nx.is_at ?_); first | refine Nx.a ?_ | refine Nx.zd ?_ | refine Nx.zs (fun hc => ?_) (fun hc => ?_))
          | ((with_reducible refine Nx.is_mix ?_); first | refine Nx.m ?_ | refine Nx.zm ?_ | refine Nx.zt (fun hc => ?_) (fun hc => ?_))
          | refine Nx.zx ?_ | fail
      all_goals first
        | exact Nx.again (j + 1, k2, gs.set j r, nx) ⟨hok.ne hjl (by omega) (by omega), hk2⟩ (by dsimp only; omega) ⟨rfl, rfl, rfl, rfl, rfl, rfl, rfl, rfl, rfl, rfl, rfl, trivial⟩ (by (exact Ent.auto))
        | exact Nx.again (j + 1, k2, gs.set j r, nx + 1) ⟨hok.eq hjl (by omega), hk2⟩ (by dsimp only; omega) ⟨rfl, rfl, rfl, rfl, rfl, rfl, rfl, rfl, rfl, rfl, rfl, trivial⟩ (by (exact Ent.auto))
        | exact Nx.again (j + 1, k2, gs.set j nx, nx + 1) ⟨hok.eq hjl rfl, hk2⟩ (by dsimp only; omega) ⟨rfl, rfl, rfl, rfl, rfl, rfl, rfl, rfl, rfl, rfl, rfl, trivial⟩ (by (exact Ent.auto))
        | exact Nx.again (j + 1, k2, gs.set j (-1), nx) ⟨hok.ne hjl (by omega) (by omega), hk2⟩ (by dsimp only; omega) ⟨rfl, rfl, rfl, rfl, rfl, rfl, rfl, rfl, rfl, rfl, rfl, trivial⟩ (by (exact Ent.auto))
    · obtain rfl : j = n := by omega
      repeat' first
        | ((with_reducible refine Nx.is_wp ?_); first | refine Nx.wo ?_ | refine Nx.zp (fun hc => ?_) (fun hc => ?_))
        | (refine Nx.zo ?_; first | refine Nx.opr rfl rfl ?_ | refine Nx.so ?_ | refine Nx.sb (fun bx => ?_) | refine Nx.sa (fun A2 c2 => ?_))
        | ((with_reducible refine Nx.is_at ?_); first | refine Nx.a ?_ | refine Nx.zd ?_ | refine Nx.zs (fun hc => ?_) (fun hc => ?_))
        | ((with_reducible refine Nx.is_mix ?_); first | refine Nx.m ?_ | refine Nx.zm ?_ | refine Nx.zt (fun hc => ?_) (fun hc => ?_))
        | refine Nx.zx ?_ | fail
      rename_i bg
      subst hgl
      refine Nx.again (i + 1, kj, A2, c2, v ++ [(some ⟨bg, 0, none⟩, gs.length, gs)]) ⟨hlt, hkj, by simp [hvl], fun j hj => ?_⟩ (by dsimp only; omega) ⟨rfl, rfl, rfl, rfl, rfl, rfl, trivial⟩ ?_
      · dsimp only
        by_cases hji : j < i
        · rw [getD_app_l (by omega)]; exact hve j hji
        · obtain rfl : j = v.length := by dsimp only at hj; omega
          rw [getD_app_r]
          exact ⟨by rw [hvl, hn], hok.done (by omega)⟩
      · dsimp only
        refine Ent.trans (R' := [rowR (some ⟨bg, 0, none⟩, gs.length, gs), Stars (v.map rowR), Blk b5 114 [.slice A2 (i + 1) c2], Vec 31 1 A2 (i + 1) c2 (v.map rowV ++ [.slice (some ⟨bg, 0, none⟩) gs.length gs.length]), CodesR b A c L kj, Blk b4 114 [.slice none 0 0], F]) (by unfold rowR; (exact Ent.auto)) (Ent.bundle.trans ?_)
        rw [List.map_append, List.map_append]
        exact (by (exact Ent.auto))
  · repeat' first
      | ((with_reducible refine Nx.is_wp ?_); first | refine Nx.wo ?_ | refine Nx.zp (fun hc => ?_) (fun hc => ?_))
      | (refine Nx.zo ?_; first | refine Nx.opr rfl rfl ?_ | refine Nx.so ?_ | refine Nx.sb (fun bx => ?_) | refine Nx.sa (fun A2 c2 => ?_))
      | ((with_reducible refine Nx.is_at ?_); first | refine Nx.a ?_ | refine Nx.zd ?_ | refine Nx.zs (fun hc => ?_) (fun hc => ?_))
      | ((with_reducible refine Nx.is_mix ?_); first | refine Nx.m ?_ | refine Nx.zm ?_ | refine Nx.zt (fun hc => ?_) (fun hc => ?_))
      | refine Nx.zx ?_ | fail
    refine Nx.ret_cell 0 rfl rfl rfl rfl rfl rfl [ViewR Av cv v, CodesR b A c L kc] ⟨Av, cv, v, kc, by rw [hvl], ⟨by omega, fun j hj => hve j (by omega)⟩, hkc, rfl⟩ ?_
    refine Ent.trans (R' := [Vec 31 1 Av i cv (v.map rowV), Stars (v.map rowR), CodesR b A c L kc, F]) (by (exact Ent.auto)) ?_
    rw [← hvl]
    exact Ent.pack2
end Go.Proofs.YtpcnapidlhpbkaaGreatDoor
/- Contracts of functions of the given program, and lemmas about plain lists and numbers: what the laws of this seat lean on. -/
namespace Go.Proofs.YtpcnapidlhpbkaaGreatDoor
open Go.Eng
attribute [local irreducible] opK wpList Code.wp Exit.then Exit.inBlock fnPost bodyPost Nx Calls Oper.wp Rd Rds Wr Ent Stars Blk Again Vec FnSpec wpMix QRun Stop Upto wpAt
theorem bytes_take {I : PH} {A : Option Addr} {c : Nat} {l : List Int} (hl : Bytes I A c l) (hx : ∀ x ∈ l, 0 ≤ x ∧ x < 256) : CodesOk I A c (l.take 400) := ⟨hl.take 400, fun x h => hx x (List.mem_of_mem_take h)⟩
set_option maxHeartbeats 8000000 in
theorem New_codes (A : Option Addr) (c : Nat) (l : List Int) (I : PH) (hl : Bytes I A c l) :
    FnSpec Tryz.prog 10 [.slice A l.length c] I [] (fun v R' => ∃ b, v = .pointer (some ⟨b, 0, none⟩) ∧ R' = [CodesR b A c (l.take 400) 0]) := New_spec A c l I hl
end Go.Proofs.YtpcnapidlhpbkaaGreatDoor
/- Contracts of functions of the given program, and lemmas about plain lists and numbers: what the laws of this seat lean on. -/
namespace Go.Proofs.YtpcnapidlhpbkaaGreatDoor
open Go.Eng Go.Sol
/-! Plain: each published cell has members; what its value is -/
theorem pl_at {l : List Int} {n : Int} {k : Nat} (hk : k < l.length) : (pl l n).getD k default = plAt l n k := map_range_at _ _ _ hk
theorem pl_len (l : List Int) (n : Int) : (pl l n).length = l.length := by simp [pl]
theorem prod_pos {l : List Int} (hs : Sizes l) {k : Nat} (hk : k ≤ l.length) : 0 < prod (l.drop k) := by
  have := prod_drop_pos hs (l.length - k) (by omega)
  rwa [show l.length - (l.length - k) = k by omega] at this
theorem pl_num {l : List Int} {n : Int} (hs : Sizes l) (hn : 0 ≤ n ∧ n < prod l) : ∀ k, k ≤ l.length → numK l (pl l n) k = n / prod (l.drop k)
  | 0, _ => by rw [numK, List.drop_zero, Int.ediv_eq_zero_of_lt hn.1 hn.2]
  | k + 1, hk => by
    have hat := hs.at (k := k) (by omega)
    have hp := prod_pos hs (k := k + 1) (by omega)
    rw [numK, pl_num hs hn k (by omega), pl_at (by omega), plAt, prod_drop l k (by omega), Int.mul_comm (l.getD k default), ← Int.ediv_ediv_of_nonneg (by omega)]
    have := Int.mul_ediv_add_emod (n / prod (l.drop (k + 1))) (l.getD k default)
    rw [Int.mul_comm] at this
    exact this
theorem pl_inr {l : List Int} {n : Int} (hs : Sizes l) : InR l (pl l n) := ⟨pl_len l n, fun k hk => by
  have hat := hs.at (k := k) hk
  rw [pl_at hk, plAt]
  exact ⟨Int.emod_nonneg _ (by omega), Int.emod_lt_of_pos _ (by omega)⟩⟩
theorem pl_back {l : List Int} {n : Int} (hs : Sizes l) (hn : 0 ≤ n ∧ n < prod l) : numK l (pl l n) l.length = n := by
  rw [pl_num hs hn l.length (Nat.le_refl _), List.drop_length]
  show n / 1 = n
  exact Int.ediv_one n
theorem numb_has : ∀ {l : List Int} {nx n : Int}, numb l nx = some n → ∀ g, nx ≤ g → g < n → g ∈ l
  | [], nx, n, h, g, h1, h2 => by simp [numb] at h; omega
  | x :: r, nx, n, h, g, h1, h2 => by
    unfold numb at h
    split at h
    · cases h
    · by_cases he : x = nx
      · rw [if_pos he] at h
        by_cases hg : g = x
        · rw [hg]; exact List.mem_cons_self
        · exact List.mem_cons_of_mem _ (numb_has h g (by omega) h2)
      · rw [if_neg he] at h
        exact List.mem_cons_of_mem _ (numb_has h g h1 h2)
theorem grouped_has {l : List Int} (h : numbB l = true) {g : Int} (h0 : 0 ≤ g) (h1 : g ≤ maxL l (l.length - 1)) : ∃ j, j < l.length ∧ l.getD j default = g := by
  unfold numbB at h
  split at h
  · rename_i n hn
    obtain ⟨j, hj, he⟩ := maxL_at l (l.length - 1)
    have hl : 0 < l.length := by
      rcases Nat.eq_zero_or_pos l.length with h' | h'
      · rw [List.eq_nil_of_length_eq_zero h'] at hn
        simp [numb] at hn
        rw [← hn] at h; simp at h
      · exact h'
    have hm := (numb_facts l 0 n hn).2.2.1 (l.getD j default) (getD_mem (by omega))
    exact mem_getD (numb_has hn g h0 (by omega))
  · cases h
theorem pub_has {l : List Int} {v : List Row} (hs : Sizes l) (hw : Viewed l v) {k : Int} (hk : 0 ≤ k ∧ k < prod (szs v)) : ∃ j : Nat, (j : Int) < prod l ∧ pubOf l v j = k := by
  have hsz := hw.sizes hs
  have hlen : (szs v).length = l.length := by rw [szs_len, hw.len]
  have hgs := pl_inr (n := k) hsz
  have hex : ∀ i, i < l.length → ∃ j, j < (v.getD i default).2.2.length ∧ (v.getD i default).2.2.getD j default = (pl (szs v) k).getD i default := fun i hi => by
    have hg := hgs.each i (by omega)
    rw [szs_at v i (by rw [hw.len]; exact hi)] at hg
    exact grouped_has (hw.each i hi).2 hg.1 (by omega)
  have hch : ∃ f : Nat → Nat, ∀ i, i < l.length → f i < (v.getD i default).2.2.length ∧ (v.getD i default).2.2.getD (f i) default = (pl (szs v) k).getD i default :=
    ⟨fun i => if h : i < l.length then (hex i h).choose else 0, fun i hi => by
      have := (hex i hi).choose_spec
      simpa [hi] using this⟩
  obtain ⟨f, hf⟩ := hch
  have hxs : InR l ((List.range l.length).map fun i => (f i : Int)) := ⟨by simp, fun i hi => by
    rw [map_range_at _ _ _ hi]
    have := (hf i hi).1
    have := (hw.each i hi).1
    omega⟩
  have hb := numK_bound hxs l.length (Nat.le_refl _)
  rw [List.take_length] at hb
  generalize hxsd : (List.range l.length).map (fun i => (f i : Int)) = xs at hxs hb
  have hpl := pl_of hs hxs rfl
  have hgo : gsOf v xs = pl (szs v) k := by
    refine list_ext (by rw [pl_len, hlen]; simp [gsOf, hw.len]) fun i hi => ?_
    have hi : i < l.length := by simpa [gsOf, hw.len] using hi
    unfold gsOf
    rw [map_range_at _ _ _ (by rw [hw.len]; exact hi), ← hxsd, map_range_at _ _ _ hi, Int.toNat_natCast]
    exact (hf i hi).2
  refine ⟨(numK l xs l.length).toNat, by omega, ?_⟩
  unfold pubOf
  rw [show (((numK l xs l.length).toNat : Nat) : Int) = numK l xs l.length by omega, ← hpl, hgo, take_lt_no (fun i hi => (hgs.each i (by rw [pl_len] at hi; exact hi)).1), if_neg (by decide), ← szs_len v]
  exact pl_back hsz hk
theorem memK_in {l : List Int} {v : List Row} {k : Int} {n : Nat} {x : Int} : x ∈ memK l v k n ↔ ∃ j : Nat, j < n ∧ pubOf l v j = k ∧ x = j := by
  unfold memK
  rw [List.mem_map]
  constructor
  · rintro ⟨j, hj, rfl⟩
    rw [List.mem_filter, List.mem_range] at hj
    exact ⟨j, hj.1, of_decide_eq_true hj.2, rfl⟩
  · rintro ⟨j, h1, h2, rfl⟩
    exact ⟨j, List.mem_filter.2 ⟨List.mem_range.2 h1, decide_eq_true h2⟩, rfl⟩
theorem memK_asc (l : List Int) (v : List Row) (k : Int) (n : Nat) : (memK l v k n).Pairwise (· < ·) := by
  unfold memK
  rw [List.pairwise_map]
  exact (List.pairwise_lt_range.filter _).imp fun h => by omega
theorem memK_good {l : List Int} {v : List Row} (hs : Sizes l) (hw : Viewed l v) {k : Int} (hk : 0 ≤ k ∧ k < prod (szs v)) {A : Option Addr} {c : Nat} {z : Int} (hz : 0 ≤ z ∧ z ≤ 1000000) : GoodE (prod l).toNat ((A, c, memK l v k (prod l).toNat), z) := by
  refine ⟨?_, hz, memK_asc l v k _, fun x hx => ?_⟩
  · obtain ⟨j, hj, hp⟩ := pub_has hs hw hk
    intro h
    have : (j : Int) ∈ memK l v k (prod l).toNat := memK_in.2 ⟨j, by omega, hp, rfl⟩
    dsimp only at h
    rw [h] at this; cases this
  · obtain ⟨j, hj, _, rfl⟩ := memK_in.1 hx
    omega
theorem sumC_appC (t : List Int) (a b : List Nat) : sumC t (a ++ b) = sumC t a + sumC t b := by
  induction a with
  | nil => rw [List.nil_append, sumC, Int.zero_add]
  | cons x r ih => rw [List.cons_append, sumC, sumC, ih, Int.add_assoc]
theorem memK_sum (l t : List Int) (v : List Row) (k : Int) : ∀ n, sumC t ((memK l v k n).map Int.toNat) = sumAt (pubOf l v) t k n
  | 0 => rfl
  | n + 1 => by
    rw [memK_succ, List.map_append, sumC_appC, memK_sum l t v k n, sumAt]
    congr 1
    split
    · rw [List.map_cons, List.map_nil, Int.toNat_natCast, sumC, sumC, Int.add_zero]; rfl
    · rfl
/-! Releases -/
structure Rel where
  num : Int
  va : Option Addr
  vc : Nat
  v : List Row
  val : Row
instance : Inhabited Rel := ⟨⟨0, none, 0, [], (none, 0, [])⟩⟩
def relC (r : Rel) : List Value := [.int .i64 r.num, .slice r.va r.v.length r.vc, rowV r.val]
theorem relC_len (r : Rel) : (relC r).length = 3 := rfl
def relR (r : Rel) : Res := Stars [ViewR r.va r.vc r.v, rowR r.val]
structure Rels (I : PH) (A : Option Addr) (c : Nat) (l : List Rel) : Prop where
  outer : SliceN relC 3 I A c l
  view : ∀ r ∈ l, RowsOf I r.va r.vc r.v
  val : ∀ r ∈ l, Ints I r.val.1 r.val.2.1 r.val.2.2
theorem Rels.mono {I I' : PH} {A : Option Addr} {c : Nat} {l : List Rel} (hle : PH.le I I') (h : Rels I A c l) : Rels I' A c l := ⟨h.outer.mono hle, fun r hr => (h.view r hr).mono hle, fun r hr => (h.val r hr).mono hle⟩
/-- A release of a table: some values may be hidden. -/
structure RelOk (l t : List Int) (r : Rel) : Prop where
  view : Viewed l r.v
  len : r.val.2.2.length = (prod (szs r.v)).toNat
  each : ∀ j, j < r.val.2.2.length → r.val.2.2.getD j default = -1 ∨ r.val.2.2.getD j default = sumAt (pubOf l r.v) t (j : Int) t.length
structure RelsOk (l t : List Int) (rs : List Rel) : Prop where
  each : ∀ i, i < rs.length → RelOk l t (rs.getD i default) ∧ (rs.getD i default).num = i
end Go.Proofs.YtpcnapidlhpbkaaGreatDoor
/- Contracts of functions of the given program, and lemmas about plain lists and numbers: what the laws of this seat lean on. -/
namespace Go.Proofs.YtpcnapidlhpbkaaGreatDoor
open Go.Eng Go.Sol
attribute [local irreducible] opK wpList Code.wp Exit.then Exit.inBlock fnPost bodyPost Nx Calls Oper.wp Rd Rds Wr Ent Stars Blk Again Vec FnSpec wpMix QRun Stop Upto wpAt
/-! Made releases -/
abbrev spB (b5 : Nat) (B : Option Addr) (n cs : Nat) : Res := Blk b5 54 [.slice B n cs]
set_option maxRecDepth 10000 in
set_option maxHeartbeats 8000000 in
theorem Releases_made (b : Nat) (A B T : Option Addr) (c cs ct : Nat) (L l t : List Int) (k most : Nat) (I : PH) (hL : CodesOk I A c L) (hk : k ≤ L.length) (hl : Ints I B cs l) (hs : Sizes l) (ht : Ints I T ct t) (hT : Table l t) (hm9 : most ≤ 1000) :
    FnSpec Tryz.prog 64 [.pointer (some ⟨b, 0, none⟩), .agg #[.slice B l.length cs], .slice T t.length ct, .int .i64 (most : Int)] I [CodesR b A c L k]
      (fun u R' => ∃ (As : Option Addr) (c' : Nat) (rs : List Rel) (k' : Nat), u = .slice As rs.length c' ∧ rs.length ≤ most ∧ RelsOk l t rs ∧ k' ≤ L.length ∧ R' = [Vec 116 3 As rs.length c' (rs.flatMap relC), Stars (rs.map relR), CodesR b A c L k']) := by
  have hlen := hl.len
  have htl := ht.len
  refine FnSpec.enterP Tryz.func64 rfl Tryz.ntmps64 rfl fun w F => ?_
  repeat' first
    | ((with_reducible refine Nx.is_wp ?_); first | refine Nx.wo ?_ | refine Nx.zp (fun hc => ?_) (fun hc => ?_))
    | (refine Nx.zo ?_; first | refine Nx.opr rfl rfl ?_ | (refine Nx.call rfl rfl rfl (by kernel_rfl) rfl (Next_any b A c L k ((most : Int) + 1) I hL hk (by omega)) (by (exact Ent.auto)) ?_; rintro _ _ ⟨n, k1, rfl, hn, hk1, rfl⟩) | refine Nx.so ?_ | refine Nx.sb (fun bx => ?_) | refine Nx.sa (fun A2 c2 => ?_))
    | ((with_reducible refine Nx.is_at ?_); first | refine Nx.a ?_ | refine Nx.zd ?_ | refine Nx.zs (fun hc => ?_) (fun hc => ?_))
    | ((with_reducible refine Nx.is_mix ?_); first | refine Nx.m ?_ | refine Nx.zm ?_ | refine Nx.zt (fun hc => ?_) (fun hc => ?_))
    | refine Nx.zx ?_ | fail
  obtain ⟨m, rfl⟩ : ∃ m : Nat, n = m := ⟨n.toNat, by omega⟩
  revert bx; intro b5
  refine Nx.p_loop (σ := Nat × Nat × Option Addr × Nat × List Rel) (fun s => [(0, .pointer (some ⟨b, 0, none⟩)), (2, .slice T t.length ct), (5, .pointer (some ⟨b5, 0, none⟩)), (9, .slice s.2.2.1 s.2.2.2.2.length s.2.2.2.1), (10, .int .i64 (s.1 : Int))])
    (fun s => [Vec 116 3 s.2.2.1 s.2.2.2.2.length s.2.2.2.1 (s.2.2.2.2.flatMap relC), Stars (s.2.2.2.2.map relR), CodesR b A c L s.2.1, spB b5 B l.length cs, F]) (fun s => s.2.1 ≤ L.length ∧ s.2.2.2.2.length + s.1 ≤ most ∧ RelsOk l t s.2.2.2.2) (fun s => s.1) (m, k1, none, 0, []) rfl
    ⟨hk1, by dsimp only; simp; omega, ⟨fun i hi => absurd hi (Nat.not_lt_zero _)⟩⟩ ⟨rfl, rfl, rfl, rfl, rfl, trivial⟩ ((Ent.stars_nil _).trans ((Ent.vec_nil 116 3 _).trans (by (exact Ent.auto)))) ?_
  rintro ⟨n, kc, As, c', rs⟩ ⟨hkc, hrl, hrs⟩
  dsimp only at hkc hrl hrs ⊢
  cases n with
  | zero =>
    repeat' first
      | ((with_reducible refine Nx.is_wp ?_); first | refine Nx.wo ?_ | refine Nx.zp (fun hc => ?_) (fun hc => ?_))
      | (refine Nx.zo ?_; first | refine Nx.opr rfl rfl ?_ | refine Nx.so ?_ | refine Nx.sb (fun bx => ?_) | refine Nx.sa (fun A2 c2 => ?_))
      | ((with_reducible refine Nx.is_at ?_); first | refine Nx.a ?_ | refine Nx.zd ?_ | refine Nx.zs (fun hc => ?_) (fun hc => ?_))
      | ((with_reducible refine Nx.is_mix ?_); first | refine Nx.m ?_ | refine Nx.zm ?_ | refine Nx.zt (fun hc => ?_) (fun hc => ?_))
      | refine Nx.zx ?_ | fail
    exact Nx.ret_fn rfl [_, _, _] ⟨As, c', rs, kc, rfl, by omega, hrs, hkc, rfl⟩ (by (exact Ent.auto))
  | succ n =>
    repeat' first
      | ((with_reducible refine Nx.is_wp ?_); first | refine Nx.wo ?_ | refine Nx.zp (fun hc => ?_) (fun hc => ?_))
      | (refine Nx.zo ?_; first | refine Nx.opr rfl rfl ?_ | (refine Nx.call rfl rfl rfl (by kernel_rfl) rfl (View_made b A B c cs L l kc I hL hkc hl hs) (by (exact Ent.auto)) ?_; rintro _ _ ⟨Av, cv, v, k2, rfl, hw, hk2, rfl⟩) | refine Nx.so ?_ | refine Nx.sb (fun bx => ?_) | refine Nx.sa (fun A2 c2 => ?_))
      | ((with_reducible refine Nx.is_at ?_); first | refine Nx.a ?_ | refine Nx.zd ?_ | refine Nx.zs (fun hc => ?_) (fun hc => ?_))
      | ((with_reducible refine Nx.is_mix ?_); first | refine Nx.m ?_ | refine Nx.zm ?_ | refine Nx.zt (fun hc => ?_) (fun hc => ?_))
      | refine Nx.zx ?_ | fail
    revert bx; intro b11
    refine Nx.ent (R' := [ViewR Av cv v, Blk b11 114 [.slice Av v.length cv], CodesR b A c L k2, Vec 116 3 As rs.length c' (rs.flatMap relC), Stars (rs.map relR), spB b5 B l.length cs, F]) (by (exact Ent.auto)) ?_
    refine Nx.at_op rfl rfl ?_
    refine Nx.call_lendR 0 rfl rfl rfl (by kernel_rfl) rfl rfl (fun m I' hle hm hv => RPublish_spec B Av T cs cv ct l t v I' (hl.mono hle) hs (ViewR.rows hm hv) hw (ht.mono hle) hT) ?_
    rintro _ _ ⟨Ap, rfl, rfl⟩
    have hszs := hw.sizes hs
    have hpr := hszs.bound (k := (szs v).length) (Nat.le_refl _)
    rw [List.take_length] at hpr
    generalize hP : (prod (szs v)).toNat = P
    have hsl := sums_len (pubOf l v) t P t.length
    generalize hz0 : sums (pubOf l v) t P t.length = z0 at hsl
    have hz1 : ∀ j, j < P → z0.getD j default = sumAt (pubOf l v) t (j : Int) t.length := fun j hj => by rw [← hz0, sums_at _ _ _ _ _ hj]
    repeat' first
      | ((with_reducible refine Nx.is_wp ?_); first | refine Nx.wo ?_ | refine Nx.zp (fun hc => ?_) (fun hc => ?_))
      | (refine Nx.zo ?_; first | refine Nx.opr rfl rfl ?_ | refine Nx.so ?_ | refine Nx.sb (fun bx => ?_) | refine Nx.sa (fun A2 c2 => ?_))
      | ((with_reducible refine Nx.is_at ?_); first | refine Nx.a ?_ | refine Nx.zd ?_ | refine Nx.zs (fun hc => ?_) (fun hc => ?_))
      | ((with_reducible refine Nx.is_mix ?_); first | refine Nx.m ?_ | refine Nx.zm ?_ | refine Nx.zt (fun hc => ?_) (fun hc => ?_))
      | refine Nx.zx ?_ | fail
    refine Nx.p_loop (σ := Nat × Nat × List Int) (fun s => [(0, .pointer (some ⟨b, 0, none⟩)), (2, .slice T t.length ct), (5, .pointer (some ⟨b5, 0, none⟩)), (9, .slice As rs.length c'), (10, .int .i64 ((n + 1 : Nat) : Int)), (11, .pointer (some ⟨b11, 0, none⟩)), (12, .slice Ap P P), (33, .slice Ap P P), (34, .int .i64 (P : Int)), (35, .int .i64 (s.1 : Int))])
      (fun s => [Vec 3 1 Ap P P (s.2.2.map (Value.int .i64)), CodesR b A c L s.2.1, ViewR Av cv v, Blk b11 114 [.slice Av v.length cv], Vec 116 3 As rs.length c' (rs.flatMap relC), Stars (rs.map relR), spB b5 B l.length cs, F]) (fun s => s.1 ≤ P ∧ s.2.1 ≤ L.length ∧ s.2.2.length = P ∧ ∀ j, j < P → s.2.2.getD j default = -1 ∨ s.2.2.getD j default = sumAt (pubOf l v) t (j : Int) t.length) (fun s => P - s.1) (0, k2, z0) rfl
      ⟨Nat.zero_le _, hk2, hsl, fun j hj => .inr (hz1 j hj)⟩ ⟨rfl, rfl, rfl, rfl, rfl, rfl, rfl, rfl, rfl, rfl, trivial⟩ (by (exact Ent.auto)) ?_
    rintro ⟨i, ki, z⟩ ⟨hi, hki, hzl, hz⟩
    dsimp only at hi hki hzl hz ⊢
    by_cases hiP : i < P
    · refine Nx.vec_fact fun _ _ _ hAp => ?_
      repeat' first
        | ((with_reducible refine Nx.is_wp ?_); first | refine Nx.wo ?_ | refine Nx.zp (fun hc => ?_) (fun hc => ?_))
        | (refine Nx.zo ?_; first | refine Nx.opr rfl rfl ?_ | (refine Nx.call rfl rfl rfl (by kernel_rfl) rfl (Next_any b A c L ki 5 I hL hki (by omega)) (by (exact Ent.auto)) ?_; rintro _ _ ⟨r, k3, rfl, hr, hk3, rfl⟩) | refine Nx.indexAddr_nat rfl rfl rfl rfl rfl hiP (hAp (by omega)) ?_ | refine Nx.store_of 1 (Value.int .i64) (l := z) (i := i) (z := -1) rfl rfl rfl rfl rfl rfl hiP ?_ | refine Nx.so ?_ | refine Nx.sb (fun bx => ?_) | refine Nx.sa (fun A2 c2 => ?_))
        | ((with_reducible refine Nx.is_at ?_); first | refine Nx.a ?_ | refine Nx.zd ?_ | refine Nx.zs (fun hc => ?_) (fun hc => ?_))
        | ((with_reducible refine Nx.is_mix ?_); first | refine Nx.m ?_ | refine Nx.zm ?_ | refine Nx.zt (fun hc => ?_) (fun hc => ?_))
        | refine Nx.zx ?_ | fail
      · exact Nx.again (i + 1, k3, z.set i (-1)) ⟨hiP, hk3, by dsimp only; rw [List.length_set]; exact hzl, fun j hj => by
            dsimp only
            by_cases hij : i = j
            · subst hij; exact .inl (getD_set_eq (by omega))
            · rw [getD_set_ne hij]; exact hz j hj⟩ (by dsimp only; omega) ⟨rfl, rfl, rfl, rfl, rfl, rfl, rfl, rfl, rfl, rfl, trivial⟩ (by (exact Ent.auto))
      · exact Nx.again (i + 1, k3, z) ⟨hiP, hk3, hzl, hz⟩ (by dsimp only; omega) ⟨rfl, rfl, rfl, rfl, rfl, rfl, rfl, rfl, rfl, rfl, trivial⟩ (by (exact Ent.auto))
    obtain rfl : i = P := by omega
    subst hzl
    repeat' first
      | ((with_reducible refine Nx.is_wp ?_); first | refine Nx.wo ?_ | refine Nx.zp (fun hc => ?_) (fun hc => ?_))
      | (refine Nx.zo ?_; first | refine Nx.opr rfl rfl ?_ | refine Nx.so ?_ | refine Nx.sb (fun bx => ?_) | refine Nx.sa (fun A2 c2 => ?_))
      | ((with_reducible refine Nx.is_at ?_); first | refine Nx.a ?_ | refine Nx.zd ?_ | refine Nx.zs (fun hc => ?_) (fun hc => ?_))
      | ((with_reducible refine Nx.is_mix ?_); first | refine Nx.m ?_ | refine Nx.zm ?_ | refine Nx.zt (fun hc => ?_) (fun hc => ?_))
      | refine Nx.zx ?_ | fail
    refine Nx.again (n, ki, A2, c2, rs ++ [⟨(rs.length : Int), Av, cv, v, (Ap, z.length, z)⟩]) ⟨hki, by dsimp only; rw [List.length_append]; show rs.length + 1 + n ≤ most; omega, ⟨fun i hi => ?_⟩⟩ (by dsimp only; omega) ⟨rfl, rfl, rfl, by dsimp only; rw [List.length_append]; rfl, by dsimp only; rw [show ((n + 1 : Nat) : Int) - 1 = (n : Int) by omega]; rfl, trivial⟩ ?_
    · dsimp only
      by_cases hir : i < rs.length
      · rw [List.getD_eq_getElem?_getD, List.getElem?_append_left hir, ← List.getD_eq_getElem?_getD]
        exact hrs.each i hir
      · obtain rfl : i = rs.length := by rw [List.length_append, List.length_singleton] at hi; omega
        rw [List.getD_eq_getElem?_getD, List.getElem?_append_right (Nat.le_refl _), Nat.sub_self]
        exact ⟨⟨hw, show z.length = (prod (szs v)).toNat from hP.symm, hz⟩, rfl⟩
    · dsimp only
      refine Ent.trans (R' := [ViewR Av cv v, rowR (Ap, z.length, z), Stars (rs.map relR), Vec 116 3 A2 (rs.length + 1) c2 (rs.flatMap relC ++ relC ⟨(rs.length : Int), Av, cv, v, (Ap, z.length, z)⟩), CodesR b A c L ki, spB b5 B l.length cs, F]) (by unfold rowR relC rowV; (exact Ent.auto)) ?_
      refine Ent.pack2.trans ?_
      refine Ent.trans (R' := Stars (rs.map relR ++ [relR ⟨(rs.length : Int), Av, cv, v, (Ap, z.length, z)⟩]) :: [Vec 116 3 A2 (rs.length + 1) c2 (rs.flatMap relC ++ relC ⟨(rs.length : Int), Av, cv, v, (Ap, z.length, z)⟩), CodesR b A c L ki, spB b5 B l.length cs, F]) Ent.bundle ?_
      rw [List.length_append, List.flatMap_append, List.map_append, List.flatMap_cons, List.flatMap_nil, List.append_nil]
      (exact Ent.auto)
end Go.Proofs.YtpcnapidlhpbkaaGreatDoor
/- Contracts of functions of the given program, and lemmas about plain lists and numbers: what the laws of this seat lean on. -/
namespace Go.Proofs.YtpcnapidlhpbkaaGreatDoor
open Go.Eng Go.Sol
attribute [local irreducible] opK wpList Code.wp Exit.then Exit.inBlock fnPost bodyPost Nx Calls Oper.wp Rd Rds Wr Ent Stars Blk Again Vec FnSpec wpMix QRun Stop Upto wpAt
/-! The reference's equations: what right releases tell -/
/-- A right release of a space. -/
structure RelV (l : List Int) (r : Rel) : Prop where
  view : Viewed l r.v
  len : r.val.2.2.length = (prod (szs r.v)).toNat
  each : ∀ j, j < r.val.2.2.length → r.val.2.2.getD j default = -1 ∨ (0 ≤ r.val.2.2.getD j default ∧ r.val.2.2.getD j default ≤ 1000000)
set_option maxRecDepth 10000 in
set_option maxHeartbeats 8000000 in
theorem release_spec (A B D : Option Addr) (c cv cd : Nat) (l vs : List Int) (v : List Row) (num before : Int) (I : PH) (hl : Ints I A c l) (hs : Sizes l) (hv : RowsOf I B cv v) (hd : Ints I D cd vs) (hr : RelV l ⟨num, B, cv, v, (D, cd, vs)⟩) (hb : before < num) (h0 : 0 ≤ num) (h24 : num < 24) :
    FnSpec Tryz.prog 157 [.agg #[.slice A l.length c], .agg #[.int .i64 num, .slice B v.length cv, .slice D vs.length cd], .int .i64 before] I [] (fun u R' => u = .int .i64 0 ∧ R' = []) := by
  obtain ⟨hw, hlen, heach⟩ := hr
  dsimp only at hw hlen heach
  have hvl := hd.len
  have hszs := hw.sizes hs
  have hpr := hszs.bound (k := (szs v).length) (Nat.le_refl _)
  rw [List.take_length] at hpr
  have hP := RPublished_spec A B c cv l v I hl hs hv hw
  rw [show prod (szs v) = (vs.length : Int) by omega] at hP
  refine FnSpec.enterP Tryz.func157 rfl Tryz.ntmps157 rfl fun w F => ?_
  repeat' first
    | ((with_reducible refine Nx.is_wp ?_); first | refine Nx.wo ?_ | refine Nx.p_draw (id := 6) rfl [0, 1, 2, 3, 4, 5, 6, 7] [6] _ rfl rfl (by kernel_rfl) (by kernel_rfl) rfl (by repeat first | exact PanicOk.fn | refine PanicOk.then_ ?_ | refine PanicOk.inB ?_) (Ent.refl _) ?_ | refine Nx.zp (fun hc => ?_) (fun hc => ?_))
    | (refine Nx.zo ?_; first | refine Nx.opr rfl rfl ?_ | refine Nx.loads rfl rfl rfl rfl (Rds.cut 0 1 rfl rfl) rfl ?_ | refine Nx.callv rfl rfl rfl (by kernel_rfl) rfl (RView_spec _ _ _ _ _ _ _ hl hs hv hw) ?_ | refine Nx.callv rfl rfl rfl (by kernel_rfl) rfl hP ?_ | refine Nx.so ?_ | refine Nx.sb (fun bx => ?_) | refine Nx.sa (fun A2 c2 => ?_))
    | ((with_reducible refine Nx.is_at ?_); first | refine Nx.a ?_ | refine Nx.zd ?_ | refine Nx.zs (fun hc => ?_) (fun hc => ?_))
    | ((with_reducible refine Nx.is_mix ?_); first | refine Nx.m_quiet rfl rfl rfl rfl rfl (by first | exact QRun.opr rfl | exact QRun.loads rfl rfl rfl (Rds.cut 0 1 rfl rfl) rfl) ?_ | refine Nx.m_quiet_do rfl rfl rfl rfl rfl rfl rfl (by first | exact QRun.opr rfl | exact QRun.loads rfl rfl rfl (Rds.cut 0 1 rfl rfl) rfl) ?_ | refine Nx.m ?_ | refine Nx.zm ?_ | refine Nx.zt (fun hc => ?_) (fun hc => ?_))
    | refine Nx.zx ?_ | fail
  refine Nx.p_loop (σ := Nat) (fun i => [(40, .slice D vs.length cd), (41, .int .i64 vs.length), (42, .int .i64 (i : Int))])
    (fun _ => [F]) (fun i => i ≤ vs.length) (fun i => vs.length - i) 0 rfl (Nat.zero_le _) ⟨rfl, rfl, rfl, trivial⟩ (by (exact Ent.auto)) ?_
  intro i hi
  have hi : i ≤ vs.length := hi
  by_cases hiv : i < vs.length
  case neg =>
    repeat' first
      | ((with_reducible refine Nx.is_wp ?_); first | refine Nx.wo ?_ | refine Nx.zp (fun hc => ?_) (fun hc => ?_))
      | (refine Nx.zo ?_; first | refine Nx.opr rfl rfl ?_ | refine Nx.so ?_ | refine Nx.sb (fun bx => ?_) | refine Nx.sa (fun A2 c2 => ?_))
      | ((with_reducible refine Nx.is_at ?_); first | refine Nx.a ?_ | refine Nx.zd ?_ | refine Nx.zs (fun hc => ?_) (fun hc => ?_))
      | ((with_reducible refine Nx.is_mix ?_); first | refine Nx.m ?_ | refine Nx.zm ?_ | refine Nx.zt (fun hc => ?_) (fun hc => ?_))
      | refine Nx.zx ?_ | fail
    exact Nx.ret_fn rfl [] ⟨rfl, rfl⟩ (by (exact Ent.auto))
  have hei := heach i hiv
  have hrd : ∀ (W : World) (R : List Res), Rd W I R ((ad D).add (i * 1)) (.int .i64 (vs.getD i default)) := fun W R => hd.rd hiv
  generalize vs.getD i default = z at hei hrd
  rcases hei with rfl | ⟨hz0, hz1⟩
  · repeat' first
      | ((with_reducible refine Nx.is_wp ?_); first | refine Nx.wo ?_ | refine Nx.zp (fun hc => ?_) (fun hc => ?_))
      | (refine Nx.zo ?_; first | refine Nx.opr rfl rfl ?_ | refine Nx.indexAddr_nat (A := D) (i := i) (sz := 1) rfl rfl rfl rfl rfl (by omega) (hd.isSome (by omega)) ?_ | refine Nx.load rfl rfl rfl (hrd _ _) ?_ | refine Nx.so ?_ | refine Nx.sb (fun bx => ?_) | refine Nx.sa (fun A2 c2 => ?_))
      | ((with_reducible refine Nx.is_at ?_); first | refine Nx.a ?_ | refine Nx.zd ?_ | refine Nx.zs (fun hc => ?_) (fun hc => ?_))
      | ((with_reducible refine Nx.is_mix ?_); first | refine Nx.m ?_ | refine Nx.zm ?_ | refine Nx.zt (fun hc => ?_) (fun hc => ?_))
      | refine Nx.zx ?_ | fail
    exact Nx.again (i + 1) hiv (by omega) ⟨rfl, rfl, rfl, trivial⟩ (by (exact Ent.auto))
  · repeat' first
      | ((with_reducible refine Nx.is_wp ?_); first | refine Nx.wo ?_ | refine Nx.zp (fun hc => ?_) (fun hc => ?_))
      | (refine Nx.zo ?_; first | refine Nx.opr rfl rfl ?_ | refine Nx.indexAddr_nat (A := D) (i := i) (sz := 1) rfl rfl rfl rfl rfl (by omega) (hd.isSome (by omega)) ?_ | refine Nx.load rfl rfl rfl (hrd _ _) ?_ | refine Nx.so ?_ | refine Nx.sb (fun bx => ?_) | refine Nx.sa (fun A2 c2 => ?_))
      | ((with_reducible refine Nx.is_at ?_); first | refine Nx.a ?_ | refine Nx.zd ?_ | refine Nx.zs (fun hc => ?_) (fun hc => ?_))
      | ((with_reducible refine Nx.is_mix ?_); first | refine Nx.m ?_ | refine Nx.zm ?_ | refine Nx.zt (fun hc => ?_) (fun hc => ?_))
      | refine Nx.zx ?_ | fail
    exact Nx.again (i + 1) hiv (by omega) ⟨rfl, rfl, rfl, trivial⟩ (by (exact Ent.auto))
/-- Right releases of a space, by ascending numbers. -/
structure RelsV (l : List Int) (rs : List Rel) : Prop where
  len : rs.length ≤ 24
  each : ∀ i, i < rs.length → RelV l (rs.getD i default) ∧ 0 ≤ (rs.getD i default).num ∧ (rs.getD i default).num < 24
  asc : ∀ i, i + 1 < rs.length → (rs.getD i default).num < (rs.getD (i + 1) default).num
def prevN (rs : List Rel) : Nat → Int
  | 0 => -1
  | i + 1 => (rs.getD i default).num
theorem RelsV.prev {l : List Int} {rs : List Rel} (h : RelsV l rs) : ∀ {i : Nat}, i < rs.length → prevN rs i < (rs.getD i default).num
  | 0, hi => by have := (h.each 0 hi).2.1; show -1 < _; omega
  | i + 1, hi => h.asc i hi
theorem getD_memR {l : List Rel} {k : Nat} (h : k < l.length) : l.getD k default ∈ l := by
  rw [List.getD_eq_getElem?_getD, List.getElem?_eq_getElem h]; exact List.getElem_mem _
set_option maxRecDepth 10000 in
set_option maxHeartbeats 8000000 in
theorem RECheck_spec (A As : Option Addr) (c cs : Nat) (l : List Int) (rs : List Rel) (I : PH) (hl : Ints I A c l) (hs : Sizes l) (hr : Rels I As cs rs) (hV : RelsV l rs) :
    FnSpec Tryz.prog 90 [.agg #[.slice A l.length c], .slice As rs.length cs] I [] (fun u R' => u = .int .i64 0 ∧ R' = []) := by
  have h24 := hV.len
  refine FnSpec.enterP Tryz.func90 rfl Tryz.ntmps90 rfl fun w F => ?_
  repeat' first
    | ((with_reducible refine Nx.is_wp ?_); first | refine Nx.wo ?_ | refine Nx.zp (fun hc => ?_) (fun hc => ?_))
    | (refine Nx.zo ?_; first | refine Nx.opr rfl rfl ?_ | refine Nx.callv rfl rfl rfl (by kernel_rfl) rfl (RCheck_spec _ _ _ _ hl hs) ?_ | refine Nx.so ?_ | refine Nx.sb (fun bx => ?_) | refine Nx.sa (fun A2 c2 => ?_))
    | ((with_reducible refine Nx.is_at ?_); first | refine Nx.a ?_ | refine Nx.zd ?_ | refine Nx.zs (fun hc => ?_) (fun hc => ?_))
    | ((with_reducible refine Nx.is_mix ?_); first | refine Nx.m ?_ | refine Nx.zm ?_ | refine Nx.zt (fun hc => ?_) (fun hc => ?_))
    | refine Nx.zx ?_ | fail
  revert bx; intro b2
  refine Nx.p_loop (σ := Nat) (fun i => [(2, .pointer (some ⟨b2, 0, none⟩)), (6, .int .i64 (prevN rs i)), (18, .slice As rs.length cs), (19, .int .i64 rs.length), (20, .int .i64 (i : Int))])
    (fun _ => [Blk b2 54 [.slice A l.length c], F]) (fun i => i ≤ rs.length) (fun i => rs.length - i) 0 rfl (Nat.zero_le _) ⟨rfl, rfl, rfl, rfl, rfl, trivial⟩ (by (exact Ent.auto)) ?_
  intro i hi
  have hi : i ≤ rs.length := hi
  by_cases hiv : i < rs.length
  case neg =>
    repeat' first
      | ((with_reducible refine Nx.is_wp ?_); first | refine Nx.wo ?_ | refine Nx.zp (fun hc => ?_) (fun hc => ?_))
      | (refine Nx.zo ?_; first | refine Nx.opr rfl rfl ?_ | refine Nx.so ?_ | refine Nx.sb (fun bx => ?_) | refine Nx.sa (fun A2 c2 => ?_))
      | ((with_reducible refine Nx.is_at ?_); first | refine Nx.a ?_ | refine Nx.zd ?_ | refine Nx.zs (fun hc => ?_) (fun hc => ?_))
      | ((with_reducible refine Nx.is_mix ?_); first | refine Nx.m ?_ | refine Nx.zm ?_ | refine Nx.zt (fun hc => ?_) (fun hc => ?_))
      | refine Nx.zx ?_ | fail
    exact Nx.ret_fn rfl [] ⟨rfl, rfl⟩ (by (exact Ent.auto))
  obtain ⟨hei, h0, h24'⟩ := hV.each i hiv
  have hpv := hV.prev hiv
  have hnx : (.int .i64 (rs.getD i default).num : Value) = .int .i64 (prevN rs (i + 1)) := rfl
  have hv := hr.view _ (getD_memR hiv)
  have hd := hr.val _ (getD_memR hiv)
  have hrds : ∀ (W : World) (R : List Res), Rds W I R ((ad As).add (i * 3)) (relC (rs.getD i default)) := fun W R => hr.outer.rds hiv
  generalize rs.getD i default = r at hei h0 h24' hpv hnx hv hd hrds
  obtain ⟨num, va, vc, v, D, cd, vs⟩ := r
  dsimp only at h0 h24' hpv hnx hv hd
  replace hrds : ∀ (W : World) (R : List Res), Rds W I R ((ad As).add (i * 3)) [.int .i64 num, .slice va v.length vc, .slice D vs.length cd] := hrds
  have hS := release_spec A va D c vc cd l vs v num (prevN rs i) I hl hs hv hd hei hpv h0 h24'
  generalize prevN rs i = pv at hS
  repeat' first
    | ((with_reducible refine Nx.is_wp ?_); first | refine Nx.wo ?_ | refine Nx.zp (fun hc => ?_) (fun hc => ?_))
    | (refine Nx.zo ?_; first | refine Nx.opr rfl rfl ?_ | refine Nx.indexAddr_nat rfl rfl rfl rfl rfl hiv (hr.outer.isSome (by omega) (by omega)) ?_ | refine Nx.loads rfl rfl rfl rfl (hrds _ _) rfl ?_ | refine Nx.callv rfl rfl rfl (by kernel_rfl) rfl hS ?_ | refine Nx.so ?_ | refine Nx.sb (fun bx => ?_) | refine Nx.sa (fun A2 c2 => ?_))
    | ((with_reducible refine Nx.is_at ?_); first | refine Nx.a ?_ | refine Nx.zd ?_ | refine Nx.zs (fun hc => ?_) (fun hc => ?_))
    | ((with_reducible refine Nx.is_mix ?_); first | refine Nx.m ?_ | refine Nx.zm ?_ | refine Nx.zt (fun hc => ?_) (fun hc => ?_))
    | refine Nx.zx ?_ | fail
  exact Nx.again (i + 1) hiv (by omega) ⟨rfl, hnx ▸ rfl, rfl, rfl, rfl, trivial⟩ (by (exact Ent.auto))
/-! What releases tell -/
def cont (q : EqR) : List Int × Int := (q.1.2.2, q.2)
def toldK (l : List Int) (v : List Row) (vs : List Int) : Nat → List (List Int × Int)
  | 0 => []
  | j + 1 => toldK l v vs j ++ if vs.getD j default = -1 then [] else [(memK l v (j : Int) (prod l).toNat, vs.getD j default)]
def told (l : List Int) (r : Rel) : List (List Int × Int) := toldK l r.v r.val.2.2 r.val.2.2.length
abbrev eqsR (A : Option Addr) (c : Nat) (qs : List EqR) : List Res := [Vec 46 2 A qs.length c (qs.flatMap eqC), Stars (qs.map fun q => rowR q.1)]
theorem take_snocR {l : List Rel} {k : Nat} (h : k < l.length) : l.take (k + 1) = l.take k ++ [l.getD k default] := by
  rw [List.take_add_one, List.getElem?_eq_getElem h, List.getD_eq_getElem?_getD, List.getElem?_eq_getElem h]; rfl
set_option maxRecDepth 10000 in
set_option maxHeartbeats 8000000 in
theorem REAll_spec (A As : Option Addr) (c cs : Nat) (l : List Int) (rs : List Rel) (I : PH) (hl : Ints I A c l) (hs : Sizes l) (hr : Rels I As cs rs) (hV : RelsV l rs) :
    FnSpec Tryz.prog 37 [.agg #[.slice A l.length c], .slice As rs.length cs] I []
      (fun u R' => ∃ (A' : Option Addr) (c' : Nat) (qs : List EqR), u = .tuple #[.slice A' qs.length c', .int .i64 0] ∧ qs.map cont = rs.flatMap (told l) ∧ qs.length ≤ 24 * 48 ∧ R' = eqsR A' c' qs) := by
  have h24 := hV.len
  refine FnSpec.enterP Tryz.func37 rfl Tryz.ntmps37 rfl fun w F => ?_
  repeat' first
    | ((with_reducible refine Nx.is_wp ?_); first | refine Nx.wo ?_ | refine Nx.zp (fun hc => ?_) (fun hc => ?_))
    | (refine Nx.zo ?_; first | refine Nx.opr rfl rfl ?_ | refine Nx.callv rfl rfl rfl (by kernel_rfl) rfl (RECheck_spec _ _ _ _ _ _ _ hl hs hr hV) ?_ | refine Nx.so ?_ | refine Nx.sb (fun bx => ?_) | refine Nx.sa (fun A2 c2 => ?_))
    | ((with_reducible refine Nx.is_at ?_); first | refine Nx.a ?_ | refine Nx.zd ?_ | refine Nx.zs (fun hc => ?_) (fun hc => ?_))
    | ((with_reducible refine Nx.is_mix ?_); first | refine Nx.m ?_ | refine Nx.zm ?_ | refine Nx.zt (fun hc => ?_) (fun hc => ?_))
    | refine Nx.zx ?_ | fail
  revert bx; intro b2
  refine Nx.p_loop (σ := Nat × Option Addr × Nat × List EqR) (fun s => [(2, .pointer (some ⟨b2, 0, none⟩)), (7, .slice s.2.1 s.2.2.2.length s.2.2.1), (20, .slice As rs.length cs), (21, .int .i64 rs.length), (22, .int .i64 (s.1 : Int))])
    (fun s => Blk b2 54 [.slice A l.length c] :: (eqsR s.2.1 s.2.2.1 s.2.2.2 ++ [F])) (fun s => s.1 ≤ rs.length ∧ s.2.2.2.map cont = (rs.take s.1).flatMap (told l) ∧ s.2.2.2.length ≤ s.1 * 48) (fun s => rs.length - s.1) (0, none, 0, []) rfl ⟨Nat.zero_le _, rfl, Nat.le_refl _⟩ ⟨rfl, rfl, rfl, rfl, rfl, trivial⟩ ((Ent.stars_nil _).trans ((Ent.vec_nil 46 2 _).trans (by unfold eqsR; (exact Ent.auto)))) ?_
  rintro ⟨i, Ao, co, qs⟩ ⟨hi, hqs, hql⟩
  dsimp only at hi hqs hql ⊢
  by_cases hiv : i < rs.length
  case neg =>
    obtain rfl : i = rs.length := by omega
    rw [List.take_length] at hqs
    repeat' first
      | ((with_reducible refine Nx.is_wp ?_); first | refine Nx.wo ?_ | refine Nx.zp (fun hc => ?_) (fun hc => ?_))
      | (refine Nx.zo ?_; first | refine Nx.opr rfl rfl ?_ | refine Nx.so ?_ | refine Nx.sb (fun bx => ?_) | refine Nx.sa (fun A2 c2 => ?_))
      | ((with_reducible refine Nx.is_at ?_); first | refine Nx.a ?_ | refine Nx.zd ?_ | refine Nx.zs (fun hc => ?_) (fun hc => ?_))
      | ((with_reducible refine Nx.is_mix ?_); first | refine Nx.m ?_ | refine Nx.zm ?_ | refine Nx.zt (fun hc => ?_) (fun hc => ?_))
      | refine Nx.zx ?_ | fail
    exact Nx.ret_fn rfl [_, _] ⟨Ao, co, qs, rfl, hqs, by omega, rfl⟩ (by (exact Ent.auto))
  obtain ⟨hei, _, _⟩ := hV.each i hiv
  have htk := take_snocR hiv
  have hv := hr.view _ (getD_memR hiv)
  have hd := hr.val _ (getD_memR hiv)
  have hrds : ∀ (W : World) (R : List Res), Rds W I R ((ad As).add (i * 3)) (relC (rs.getD i default)) := fun W R => hr.outer.rds hiv
  generalize rs.getD i default = r at hei htk hv hd hrds
  obtain ⟨num, va, vc, v, D, cd, vs⟩ := r
  dsimp only at hv hd
  obtain ⟨hw, hlen, heach⟩ := hei
  dsimp only at hw hlen heach
  have hszs := hw.sizes hs
  have hvl := hd.len
  have hpc := hszs.cells
  have hpr := hszs.bound (k := (szs v).length) (Nat.le_refl _)
  rw [List.take_length] at hpr
  replace hrds : ∀ (W : World) (R : List Res), Rds W I R ((ad As).add (i * 3)) [.int .i64 num, .slice va v.length vc, .slice D vs.length cd] := hrds
  repeat' first
    | ((with_reducible refine Nx.is_wp ?_); first | refine Nx.wo ?_ | refine Nx.zp (fun hc => ?_) (fun hc => ?_))
    | (refine Nx.zo ?_; first | refine Nx.opr rfl rfl ?_ | refine Nx.indexAddr_nat rfl rfl rfl rfl rfl hiv (hr.outer.isSome (by omega) (by omega)) ?_ | refine Nx.loads rfl rfl rfl rfl (hrds _ _) rfl ?_ | refine Nx.so ?_ | refine Nx.sb (fun bx => ?_) | refine Nx.sa (fun A2 c2 => ?_))
    | ((with_reducible refine Nx.is_at ?_); first | refine Nx.a ?_ | refine Nx.zd ?_ | refine Nx.zs (fun hc => ?_) (fun hc => ?_))
    | ((with_reducible refine Nx.is_mix ?_); first | refine Nx.m ?_ | refine Nx.zm ?_ | refine Nx.zt (fun hc => ?_) (fun hc => ?_))
    | refine Nx.zx ?_ | fail
  revert bx; intro b9
  refine Nx.p_loop (σ := Nat × Option Addr × Nat × List EqR) (fun s => [(2, .pointer (some ⟨b2, 0, none⟩)), (7, .slice s.2.1 s.2.2.2.length s.2.2.1), (9, .pointer (some ⟨b9, 0, none⟩)), (20, .slice As rs.length cs), (21, .int .i64 rs.length), (22, .int .i64 (i : Int)), (27, .slice D vs.length cd), (28, .int .i64 vs.length), (29, .int .i64 (s.1 : Int))])
    (fun s => Blk b9 116 [.int .i64 num, .slice va v.length vc, .slice D vs.length cd] :: Blk b2 54 [.slice A l.length c] :: (eqsR s.2.1 s.2.2.1 s.2.2.2 ++ [F])) (fun s => s.1 ≤ vs.length ∧ s.2.2.2.map cont = (rs.take i).flatMap (told l) ++ toldK l v vs s.1 ∧ s.2.2.2.length ≤ i * 48 + s.1) (fun s => vs.length - s.1) (0, Ao, co, qs) rfl ⟨Nat.zero_le _, by rw [toldK, List.append_nil]; exact hqs, hql⟩ ⟨rfl, rfl, rfl, rfl, rfl, rfl, rfl, rfl, rfl, trivial⟩ (by (exact Ent.auto)) ?_
  rintro ⟨j, Ap, cp, ps⟩ ⟨hj, hps, hpl⟩
  dsimp only at hj hps hpl ⊢
  by_cases hjv : j < vs.length
  case neg =>
    obtain rfl : j = vs.length := by omega
    repeat' first
      | ((with_reducible refine Nx.is_wp ?_); first | refine Nx.wo ?_ | refine Nx.zp (fun hc => ?_) (fun hc => ?_))
      | (refine Nx.zo ?_; first | refine Nx.opr rfl rfl ?_ | refine Nx.so ?_ | refine Nx.sb (fun bx => ?_) | refine Nx.sa (fun A2 c2 => ?_))
      | ((with_reducible refine Nx.is_at ?_); first | refine Nx.a ?_ | refine Nx.zd ?_ | refine Nx.zs (fun hc => ?_) (fun hc => ?_))
      | ((with_reducible refine Nx.is_mix ?_); first | refine Nx.m ?_ | refine Nx.zm ?_ | refine Nx.zt (fun hc => ?_) (fun hc => ?_))
      | refine Nx.zx ?_ | fail
    exact Nx.again (i + 1, Ap, cp, ps) ⟨hiv, by dsimp only; rw [htk, List.flatMap_append, List.flatMap_cons, List.flatMap_nil, List.append_nil]; exact hps, by dsimp only; omega⟩ (by dsimp only; omega) ⟨rfl, rfl, rfl, rfl, rfl, trivial⟩ (by (exact Ent.auto))
  have hrd : ∀ (W : World) (R : List Res), Rd W I R ((ad D).add (j * 1)) (.int .i64 (vs.getD j default)) := fun W R => hd.rd hjv
  have hts : toldK l v vs (j + 1) = toldK l v vs j ++ if vs.getD j default = -1 then [] else [(memK l v (j : Int) (prod l).toNat, vs.getD j default)] := rfl
  have hM := RMembers_spec A va c vc l v (j : Int) I hl hs hv hw ⟨by omega, by omega⟩
  generalize memK l v (j : Int) (prod l).toNat = mm at hM hts
  generalize vs.getD j default = z at hrd hts
  by_cases hz : z = -1
  · subst hz
    rw [if_pos rfl, List.append_nil] at hts
    repeat' first
      | ((with_reducible refine Nx.is_wp ?_); first | refine Nx.wo ?_ | refine Nx.zp (fun hc => ?_) (fun hc => ?_))
      | (refine Nx.zo ?_; first | refine Nx.opr rfl rfl ?_ | refine Nx.indexAddr_nat (A := D) rfl rfl rfl rfl rfl hjv (hd.isSome (by omega)) ?_ | refine Nx.load rfl rfl rfl (hrd _ _) ?_ | refine Nx.so ?_ | refine Nx.sb (fun bx => ?_) | refine Nx.sa (fun A2 c2 => ?_))
      | ((with_reducible refine Nx.is_at ?_); first | refine Nx.a ?_ | refine Nx.zd ?_ | refine Nx.zs (fun hc => ?_) (fun hc => ?_))
      | ((with_reducible refine Nx.is_mix ?_); first | refine Nx.m ?_ | refine Nx.zm ?_ | refine Nx.zt (fun hc => ?_) (fun hc => ?_))
      | refine Nx.zx ?_ | fail
    exact Nx.again (j + 1, Ap, cp, ps) ⟨hjv, by rw [hts]; exact hps, by dsimp only; omega⟩ (by dsimp only; omega) ⟨rfl, rfl, rfl, rfl, rfl, rfl, rfl, rfl, rfl, trivial⟩ (by (exact Ent.auto))
  · rw [if_neg hz] at hts
    repeat' first
      | ((with_reducible refine Nx.is_wp ?_); first | refine Nx.wo ?_ | refine Nx.zp (fun hc => ?_) (fun hc => ?_))
      | (refine Nx.zo ?_; first | refine Nx.opr rfl rfl ?_ | refine Nx.indexAddr_nat (A := D) rfl rfl rfl rfl rfl hjv (hd.isSome (by omega)) ?_ | refine Nx.load rfl rfl rfl (hrd _ _) ?_ | refine Nx.loads rfl rfl rfl rfl (Rds.cut 0 1 rfl rfl) rfl ?_ | (refine Nx.call (Rpre := []) rfl rfl rfl (by kernel_rfl) rfl hM (Ent.refl _) ?_; rintro _ _ ⟨Am, cm, rfl, rfl⟩) | refine Nx.so ?_ | refine Nx.sb (fun bx => ?_) | refine Nx.sa (fun A2 c2 => ?_))
      | ((with_reducible refine Nx.is_at ?_); first | refine Nx.a ?_ | refine Nx.zd ?_ | refine Nx.zs (fun hc => ?_) (fun hc => ?_))
      | ((with_reducible refine Nx.is_mix ?_); first | refine Nx.m ?_ | refine Nx.zm ?_ | refine Nx.zt (fun hc => ?_) (fun hc => ?_))
      | refine Nx.zx ?_ | fail
    refine Nx.again (j + 1, A2, c2, ps ++ [((Am, cm, mm), z)]) ⟨hjv, by dsimp only; rw [hts, List.map_append, hps, List.append_assoc]; rfl, by dsimp only; rw [List.length_append]; show ps.length + 1 ≤ _; omega⟩ (by dsimp only; omega) ⟨rfl, by dsimp only; rw [List.length_append]; rfl, rfl, rfl, rfl, rfl, rfl, rfl, rfl, trivial⟩ ?_
    dsimp only
    refine Ent.trans (R' := rowR (Am, cm, mm) :: Stars (ps.map fun q => rowR q.1) :: [Vec 46 2 A2 (ps.length + 1) c2 (ps.flatMap eqC ++ eqC ((Am, cm, mm), z)), Blk b9 116 [.int .i64 num, .slice va v.length vc, .slice D vs.length cd], Blk b2 54 [.slice A l.length c], F]) (by unfold rowR eqC eqsR; (exact Ent.auto)) ?_
    refine Ent.trans (R' := Stars ((ps.map fun q => rowR q.1) ++ [rowR (Am, cm, mm)]) :: [Vec 46 2 A2 (ps.length + 1) c2 (ps.flatMap eqC ++ eqC ((Am, cm, mm), z)), Blk b9 116 [.int .i64 num, .slice va v.length vc, .slice D vs.length cd], Blk b2 54 [.slice A l.length c], F]) Ent.bundle ?_
    unfold eqsR
    rw [List.length_append, List.flatMap_append, List.map_append, List.flatMap_cons, List.flatMap_nil, List.append_nil]
    (exact Ent.auto)
end Go.Proofs.YtpcnapidlhpbkaaGreatDoor
/- Contracts of functions of the given program, and lemmas about plain lists and numbers: what the laws of this seat lean on. -/
namespace Go.Proofs.YtpcnapidlhpbkaaGreatDoor
open Go.Eng Go.Sol
attribute [local irreducible] opK wpList Code.wp Exit.then Exit.inBlock fnPost bodyPost Nx Calls Oper.wp Rd Rds Wr Ent Stars Blk Again Vec FnSpec wpMix QRun Stop Upto wpAt
/-! Made equations -/
theorem rels_of {As : Option Addr} {cs : Nat} {rs : List Rel} {m I' : PH} {m1 m2 : PH} (hm : PH.le m I') (h1 : Vec 116 3 As rs.length cs (rs.flatMap relC) m1) (hm1 : PH.le m1 m) (h2 : Stars (rs.map relR) m2) (hm2 : PH.le m2 m) : Rels I' As cs rs := by
  have hat : ∀ r ∈ rs, ∃ m3, PH.le m3 I' ∧ relR r m3 := fun r hr => by
    obtain ⟨k, hk, he⟩ := List.mem_iff_getElem.1 hr
    obtain ⟨m3, h3le, h3⟩ := Stars.get k (r := relR r) h2 (by rw [nthL_eq, List.getElem?_map, List.getElem?_eq_getElem hk, he]; rfl)
    exact ⟨m3, (h3le.trans hm2).trans hm, h3⟩
  refine ⟨Vec.sliceN (hm1.trans hm) h1 fun x _ => relC_len x, fun r hr => ?_, fun r hr => ?_⟩
  · obtain ⟨m3, h3, hr3⟩ := hat r hr
    obtain ⟨m4, h4le, h4⟩ := Stars.get 0 hr3 rfl
    exact ViewR.rows (h4le.trans h3) h4
  · obtain ⟨m3, h3, hr3⟩ := hat r hr
    obtain ⟨m4, h4le, h4⟩ := Stars.get 1 hr3 rfl
    exact Vec.sliceOf (h4le.trans h3) h4
abbrev tabOk (s t : List Int) (most : Int) : Prop := t.length = (prod s).toNat ∧ ∀ j, j < t.length → 0 ≤ t.getD j default ∧ t.getD j default ≤ most
abbrev toldR (B : Option Addr) (c' : Nat) (s : List Int) (At : Option Addr) (ct : Nat) (t : List Int) (As : Option Addr) (ca : Nat) (rs : List Rel) : List Res := [iR B c' s, iR At ct t, Vec 116 3 As rs.length ca (rs.flatMap relC), Stars (rs.map relR)]
theorem sumAt_bd2 {p : Nat → Int} {t : List Int} {k M : Int} (ht : ∀ j, j < t.length → 0 ≤ t.getD j default ∧ t.getD j default ≤ M) (hM : 0 ≤ M) : ∀ n, n ≤ t.length → 0 ≤ sumAt p t k n ∧ sumAt p t k n ≤ n * M
  | 0, _ => by simp [sumAt]
  | n + 1, h => by
    have ih := sumAt_bd2 (p := p) (k := k) ht hM n (by omega)
    have h1 := ht n (by omega)
    rw [sumAt]
    have e : ((n + 1 : Nat) : Int) * M = n * M + M := by rw [Int.natCast_succ, Int.add_mul, Int.one_mul]
    split <;> omega
theorem relsV_of {l t : List Int} {rs : List Rel} {most : Int} (hs : Sizes l) (hT : tabOk l t most) (h0 : 0 ≤ most) (hm : most ≤ 1000) (h : RelsOk l t rs) (hn : rs.length ≤ 24) : RelsV l rs := by
  have hc := hs.cells
  refine ⟨hn, fun i hi => ?_, fun i hi => ?_⟩
  · obtain ⟨⟨h1, h2, h3⟩, h4⟩ := h.each i hi
    refine ⟨⟨h1, h2, fun j hj => ?_⟩, by omega, by omega⟩
    rcases h3 j hj with h5 | h5
    · exact .inl h5
    · have hb := sumAt_bd2 (p := pubOf l (rs.getD i default).v) (k := (j : Int)) hT.2 h0 t.length (Nat.le_refl _)
      have hlt : (t.length : Int) ≤ 48 := by have := hT.1; omega
      have h6 : (t.length : Int) * most ≤ 48 * 1000 := Int.mul_le_mul hlt hm h0 (by omega)
      rw [h5]
      right; omega
  · have h1 := (h.each i (by omega)).2
    have h2 := (h.each (i + 1) hi).2
    omega
theorem mem_toldK {l : List Int} {v : List Row} {vs : List Int} {x : List Int × Int} : ∀ {n : Nat}, x ∈ toldK l v vs n ↔ ∃ j, j < n ∧ vs.getD j default ≠ -1 ∧ x = (memK l v (j : Int) (prod l).toNat, vs.getD j default)
  | 0 => by simp [toldK]
  | n + 1 => by
    rw [toldK, List.mem_append, mem_toldK]
    constructor
    · rintro (⟨j, h1, h2, h3⟩ | h)
      · exact ⟨j, by omega, h2, h3⟩
      · by_cases hz : vs.getD n default = -1
        · rw [if_pos hz] at h; cases h
        · rw [if_neg hz, List.mem_singleton] at h
          exact ⟨n, by omega, hz, h⟩
    · rintro ⟨j, h1, h2, h3⟩
      rcases Nat.lt_or_ge j n with hj | hj
      · exact .inl ⟨j, hj, h2, h3⟩
      · obtain rfl : j = n := by omega
        right
        rw [if_neg h2, List.mem_singleton]
        exact h3
/-- What releases of a table tell is valid, and the table agrees with it. -/
theorem told_eq {l t : List Int} {rs : List Rel} {most : Int} (hs : Sizes l) (hT : tabOk l t most) (h0 : 0 ≤ most) (hm : most ≤ 1000) (h : RelsOk l t rs) (hn : rs.length ≤ 24) {q : EqR} (hq : cont q ∈ rs.flatMap (told l)) : GoodE (prod l).toNat q ∧ sumC t (eqn q).1 = q.2 := by
  rw [List.mem_flatMap] at hq
  obtain ⟨r, hr, hq⟩ := hq
  obtain ⟨i, hi, he⟩ := List.mem_iff_getElem.1 hr
  have hri : rs.getD i default = r := by rw [List.getD_eq_getElem?_getD, List.getElem?_eq_getElem hi, he]; rfl
  have hV := ((relsV_of hs hT h0 hm h hn).each i hi).1
  have hO := (h.each i hi).1
  rw [hri] at hV hO
  unfold told at hq
  obtain ⟨j, hj, hne, hc⟩ := mem_toldK.1 hq
  obtain ⟨⟨a, c, m⟩, z⟩ := q
  unfold cont at hc
  obtain ⟨rfl, rfl⟩ := Prod.mk.inj hc
  have hP := hV.len
  have hvj := hV.each j hj
  have hoj := hO.each j hj
  have hszs := hV.view.sizes hs
  have hk : 0 ≤ (j : Int) ∧ (j : Int) < prod (szs r.v) := ⟨by omega, by omega⟩
  refine ⟨memK_good hs hV.view hk (by omega), ?_⟩
  show sumC t ((memK l r.v (j : Int) (prod l).toNat).map Int.toNat) = r.val.2.2.getD j default
  rw [memK_sum, ← hT.1]
  rcases hoj with h5 | h5
  · exact absurd h5 hne
  · exact h5.symm
theorem min_take {l : List EqR} {k : Nat} (h : k < l.length) : l.take (min (k + 1) 8) = if k < 8 then l.take (min k 8) ++ [l.getD k default] else l.take (min k 8) := by
  split
  · rename_i hk
    rw [show min (k + 1) 8 = k + 1 by omega, show min k 8 = k by omega, take_snocQ h]
  · rename_i hk
    rw [show min (k + 1) 8 = min k 8 by omega]
/-- Equations with which a table agrees. -/
structure EqsOk (N : Nat) (t : List Int) (most : Int) (qs : List EqR) : Prop where
  n : 1 ≤ N ∧ N ≤ 48
  len : t.length = N
  tab : ∀ j, j < t.length → 0 ≤ t.getD j default ∧ t.getD j default ≤ most
  few : qs.length ≤ 8
  good : ∀ q ∈ qs, GoodE N q
  sum : ∀ q ∈ qs, sumC t (eqn q).1 = q.2
end Go.Proofs.YtpcnapidlhpbkaaGreatDoor
/- Contracts of functions of the given program, and lemmas about plain lists and numbers: what the laws of this seat lean on. -/
namespace Go.Proofs.YtpcnapidlhpbkaaGreatDoor
open Go.Eng Go.Sol
attribute [local irreducible] opK wpList Code.wp Exit.then Exit.inBlock fnPost bodyPost Nx Calls Oper.wp Rd Rds Wr Ent Stars Blk Again Vec FnSpec wpMix QRun Stop Upto wpAt
/-! Made spaces have at most eight cells (written by mkB8.py) -/
set_option maxRecDepth 10000 in
set_option maxHeartbeats 8000000 in
theorem Space_spec8 (b : Nat) (A : Option Addr) (c : Nat) (l : List Int) (k : Nat) (I : PH) (hl : SliceOf (fun x : Int => Value.int .u8 x) I A c l) (hx : ∀ x ∈ l, 0 ≤ x ∧ x < 256) (hk : k ≤ l.length) :
    FnSpec Tryz.prog 62 [.pointer (some ⟨b, 0, none⟩)] I [Blk b 83 [.slice A l.length c, .int .i64 (k : Int)]]
      (fun v R' => ∃ (B : Option Addr) (c' : Nat) (s : List Int) (k' : Nat), v = .agg #[.slice B s.length c'] ∧ (Sizes s ∧ prod s ≤ 8) ∧ k' ≤ l.length ∧ R' = [Vec 3 1 B s.length c' (s.map (Value.int .i64)), Blk b 83 [.slice A l.length c, .int .i64 (k' : Int)]]) := by
  refine FnSpec.enterP Tryz.func62 rfl Tryz.ntmps62 rfl fun w F => ?_
  repeat' first
    | ((with_reducible refine Nx.is_wp ?_); first | refine Nx.wo ?_ | refine Nx.zp (fun hc => ?_) (fun hc => ?_))
    | (refine Nx.zo ?_; first | refine Nx.opr rfl rfl ?_ | refine Nx.so ?_ | refine Nx.sb (fun bx => ?_) | refine Nx.sa (fun A2 c2 => ?_))
    | ((with_reducible refine Nx.is_at ?_); first | refine Nx.a ?_ | refine Nx.zd ?_ | refine Nx.zs (fun hc => ?_) (fun hc => ?_))
    | ((with_reducible refine Nx.is_mix ?_); first | refine Nx.m ?_ | refine Nx.zm ?_ | refine Nx.zt (fun hc => ?_) (fun hc => ?_))
    | refine Nx.zx ?_ | fail
  refine Nx.pull 11 rfl ?_
  refine Nx.at_op rfl rfl ?_
  refine Nx.call rfl rfl rfl (by kernel_rfl) rfl (Next_spec b A c l k 9 I hl hx hk (by omega)) (Ent.refl _) ?_
  rintro v R' ⟨r, k', rfl, hr, hk', rfl⟩
  have hr9 : r = 0 ∨ r = 1 ∨ r = 2 ∨ r = 3 ∨ r = 4 ∨ r = 5 ∨ r = 6 ∨ r = 7 ∨ r = 8 := by omega
  rcases hr9 with rfl | rfl | rfl | rfl | rfl | rfl | rfl | rfl | rfl
  all_goals repeat' first
              | ((with_reducible refine Nx.is_wp ?_); first | refine Nx.wo ?_ | refine Nx.zp (fun hc => ?_) (fun hc => ?_))
              | (refine Nx.zo ?_; first | refine Nx.opr rfl rfl ?_ | refine Nx.indexAddr rfl rfl rfl rfl rfl (by decide) (by decide) rfl ?_ | refine Nx.so ?_ | refine Nx.sb (fun bx => ?_) | refine Nx.sa (fun A2 c2 => ?_))
              | ((with_reducible refine Nx.is_at ?_); first | refine Nx.a ?_ | refine Nx.zd ?_ | refine Nx.zs (fun hc => ?_) (fun hc => ?_))
              | ((with_reducible refine Nx.is_mix ?_); first | refine Nx.m ?_ | refine Nx.zm ?_ | refine Nx.zt (fun hc => ?_) (fun hc => ?_))
              | refine Nx.zx ?_ | fail
  all_goals refine Nx.blk_vec 0 0 1 rfl rfl (by omega) ?_
  all_goals first
    | (refine Nx.pull 11 rfl ?_; refine Nx.at_op rfl rfl ?_; refine Nx.append_lit 0 rfl rfl rfl rfl (by kernel_rfl) rfl rfl rfl rfl (by omega) (fun A2 c2 => ?_))
    | (refine Nx.pull 10 rfl ?_; refine Nx.at_op rfl rfl ?_; refine Nx.append_lit 0 rfl rfl rfl rfl (by kernel_rfl) rfl rfl rfl rfl (by omega) (fun A2 c2 => ?_))
    | (refine Nx.pull 9 rfl ?_; refine Nx.at_op rfl rfl ?_; refine Nx.append_lit 0 rfl rfl rfl rfl (by kernel_rfl) rfl rfl rfl rfl (by omega) (fun A2 c2 => ?_))
    | (refine Nx.pull 8 rfl ?_; refine Nx.at_op rfl rfl ?_; refine Nx.append_lit 0 rfl rfl rfl rfl (by kernel_rfl) rfl rfl rfl rfl (by omega) (fun A2 c2 => ?_))
    | (refine Nx.pull 7 rfl ?_; refine Nx.at_op rfl rfl ?_; refine Nx.append_lit 0 rfl rfl rfl rfl (by kernel_rfl) rfl rfl rfl rfl (by omega) (fun A2 c2 => ?_))
    | (refine Nx.pull 6 rfl ?_; refine Nx.at_op rfl rfl ?_; refine Nx.append_lit 0 rfl rfl rfl rfl (by kernel_rfl) rfl rfl rfl rfl (by omega) (fun A2 c2 => ?_))
    | (refine Nx.pull 5 rfl ?_; refine Nx.at_op rfl rfl ?_; refine Nx.append_lit 0 rfl rfl rfl rfl (by kernel_rfl) rfl rfl rfl rfl (by omega) (fun A2 c2 => ?_))
    | (refine Nx.pull 4 rfl ?_; refine Nx.at_op rfl rfl ?_; refine Nx.append_lit 0 rfl rfl rfl rfl (by kernel_rfl) rfl rfl rfl rfl (by omega) (fun A2 c2 => ?_))
    | (refine Nx.pull 3 rfl ?_; refine Nx.at_op rfl rfl ?_; refine Nx.append_lit 0 rfl rfl rfl rfl (by kernel_rfl) rfl rfl rfl rfl (by omega) (fun A2 c2 => ?_))
  all_goals refine Nx.pull 11 rfl ?_
  all_goals repeat' first
              | ((with_reducible refine Nx.is_wp ?_); first | refine Nx.wo ?_ | refine Nx.zp (fun hc => ?_) (fun hc => ?_))
              | (refine Nx.zo ?_; first | refine Nx.opr rfl rfl ?_ | refine Nx.so ?_ | refine Nx.sb (fun bx => ?_) | refine Nx.sa (fun A2 c2 => ?_))
              | ((with_reducible refine Nx.is_at ?_); first | refine Nx.a ?_ | refine Nx.zd ?_ | refine Nx.zs (fun hc => ?_) (fun hc => ?_))
              | ((with_reducible refine Nx.is_mix ?_); first | refine Nx.m ?_ | refine Nx.zm ?_ | refine Nx.zt (fun hc => ?_) (fun hc => ?_))
              | refine Nx.zx ?_ | fail
  all_goals first
    | (refine Nx.ret_cell 0 rfl rfl rfl rfl rfl rfl [Vec 3 1 _ (0 + 1) _ ([] ++ [.int .i64 2]), _] ⟨_, _, [2], k', rfl, ⟨⟨by decide, by decide, by decide⟩, by decide⟩, hk', rfl⟩ ?_; refine Ent.pick 1 rfl ?_)
    | (refine Nx.ret_cell 0 rfl rfl rfl rfl rfl rfl [Vec 3 1 _ (0 + 1) _ ([] ++ [.int .i64 3]), _] ⟨_, _, [3], k', rfl, ⟨⟨by decide, by decide, by decide⟩, by decide⟩, hk', rfl⟩ ?_; refine Ent.pick 1 rfl ?_)
    | (refine Nx.ret_cell 0 rfl rfl rfl rfl rfl rfl [Vec 3 1 _ (0 + 2) _ ([] ++ [.int .i64 2, .int .i64 2]), _] ⟨_, _, [2, 2], k', rfl, ⟨⟨by decide, by decide, by decide⟩, by decide⟩, hk', rfl⟩ ?_; refine Ent.pick 1 rfl ?_)
    | (refine Nx.ret_cell 0 rfl rfl rfl rfl rfl rfl [Vec 3 1 _ (0 + 2) _ ([] ++ [.int .i64 2, .int .i64 3]), _] ⟨_, _, [2, 3], k', rfl, ⟨⟨by decide, by decide, by decide⟩, by decide⟩, hk', rfl⟩ ?_; refine Ent.pick 1 rfl ?_)
    | (refine Nx.ret_cell 0 rfl rfl rfl rfl rfl rfl [Vec 3 1 _ (0 + 1) _ ([] ++ [.int .i64 4]), _] ⟨_, _, [4], k', rfl, ⟨⟨by decide, by decide, by decide⟩, by decide⟩, hk', rfl⟩ ?_; refine Ent.pick 1 rfl ?_)
    | (refine Nx.ret_cell 0 rfl rfl rfl rfl rfl rfl [Vec 3 1 _ (0 + 3) _ ([] ++ [.int .i64 2, .int .i64 2, .int .i64 2]), _] ⟨_, _, [2, 2, 2], k', rfl, ⟨⟨by decide, by decide, by decide⟩, by decide⟩, hk', rfl⟩ ?_; refine Ent.pick 1 rfl ?_)
    | (refine Nx.ret_cell 0 rfl rfl rfl rfl rfl rfl [Vec 3 1 _ (0 + 2) _ ([] ++ [.int .i64 3, .int .i64 2]), _] ⟨_, _, [3, 2], k', rfl, ⟨⟨by decide, by decide, by decide⟩, by decide⟩, hk', rfl⟩ ?_; refine Ent.pick 1 rfl ?_)
    | (refine Nx.ret_cell 0 rfl rfl rfl rfl rfl rfl [Vec 3 1 _ (0 + 1) _ ([] ++ [.int .i64 6]), _] ⟨_, _, [6], k', rfl, ⟨⟨by decide, by decide, by decide⟩, by decide⟩, hk', rfl⟩ ?_; refine Ent.pick 1 rfl ?_)
    | (refine Nx.ret_cell 0 rfl rfl rfl rfl rfl rfl [Vec 3 1 _ (0 + 2) _ ([] ++ [.int .i64 1, .int .i64 3]), _] ⟨_, _, [1, 3], k', rfl, ⟨⟨by decide, by decide, by decide⟩, by decide⟩, hk', rfl⟩ ?_; refine Ent.pick 1 rfl ?_)
  all_goals (exact Ent.auto)
set_option maxHeartbeats 8000000 in
theorem Space_made8 (b : Nat) (A : Option Addr) (c : Nat) (L : List Int) (k : Nat) (I : PH) (hL : CodesOk I A c L) (hk : k ≤ L.length) :
    FnSpec Tryz.prog 62 [.pointer (some ⟨b, 0, none⟩)] I [CodesR b A c L k]
      (fun v R' => ∃ (B : Option Addr) (c' : Nat) (s : List Int) (k' : Nat), v = .agg #[.slice B s.length c'] ∧ (Sizes s ∧ prod s ≤ 8) ∧ k' ≤ L.length ∧ R' = [Vec 3 1 B s.length c' (s.map (Value.int .i64)), CodesR b A c L k']) := Space_spec8 b A c L k I hL.sl hL.each hk
set_option maxRecDepth 10000 in
set_option maxHeartbeats 8000000 in
theorem Told_made8 (b : Nat) (A : Option Addr) (c : Nat) (L : List Int) (k most n : Nat) (I : PH) (hL : CodesOk I A c L) (hk : k ≤ L.length) (hm : most ≤ 1000) (hn : n ≤ 1000) :
    FnSpec Tryz.prog 20 [.pointer (some ⟨b, 0, none⟩), .int .i64 (most : Int), .int .i64 (n : Int)] I [CodesR b A c L k]
      (fun u R' => ∃ (B : Option Addr) (c' : Nat) (s : List Int) (At : Option Addr) (ct : Nat) (t : List Int) (As : Option Addr) (ca : Nat) (rs : List Rel) (k' : Nat), u = .tuple #[.agg #[.slice B s.length c'], .slice At t.length ct, .slice As rs.length ca] ∧ (Sizes s ∧ prod s ≤ 8) ∧ tabOk s t most ∧ rs.length ≤ n ∧ RelsOk s t rs ∧ k' ≤ L.length ∧ R' = toldR B c' s At ct t As ca rs ++ [CodesR b A c L k']) := by
  refine FnSpec.enterP Tryz.func20 rfl Tryz.ntmps20 rfl fun w F => ?_
  repeat' first
    | ((with_reducible refine Nx.is_wp ?_); first | refine Nx.wo ?_ | refine Nx.zp (fun hc => ?_) (fun hc => ?_))
    | (refine Nx.zo ?_; first | refine Nx.opr rfl rfl ?_ | refine Nx.so ?_ | refine Nx.sb (fun bx => ?_) | refine Nx.sa (fun A2 c2 => ?_))
    | ((with_reducible refine Nx.is_at ?_); first | refine Nx.a ?_ | refine Nx.zd ?_ | refine Nx.zs (fun hc => ?_) (fun hc => ?_))
    | ((with_reducible refine Nx.is_mix ?_); first | refine Nx.m ?_ | refine Nx.zm ?_ | refine Nx.zt (fun hc => ?_) (fun hc => ?_))
    | refine Nx.zx ?_ | fail
  revert bx; intro b6
  refine Nx.at_op rfl rfl ?_
  refine Nx.call rfl rfl rfl (by kernel_rfl) rfl (Space_made8 b A c L k I hL hk) (by (exact Ent.auto)) ?_
  rintro _ _ ⟨B, c', s, k1, rfl, ⟨hs, hs8⟩, hk1, rfl⟩
  repeat' first
    | ((with_reducible refine Nx.is_wp ?_); first | refine Nx.wo ?_ | refine Nx.zp (fun hc => ?_) (fun hc => ?_))
    | (refine Nx.zo ?_; first | refine Nx.opr rfl rfl ?_ | refine Nx.so ?_ | refine Nx.sb (fun bx => ?_) | refine Nx.sa (fun A2 c2 => ?_))
    | ((with_reducible refine Nx.is_at ?_); first | refine Nx.a ?_ | refine Nx.zd ?_ | refine Nx.zs (fun hc => ?_) (fun hc => ?_))
    | ((with_reducible refine Nx.is_mix ?_); first | refine Nx.m ?_ | refine Nx.zm ?_ | refine Nx.zt (fun hc => ?_) (fun hc => ?_))
    | refine Nx.zx ?_ | fail
  revert bx; intro b9
  refine Nx.at_op rfl rfl ?_
  refine Nx.call rfl rfl rfl (by kernel_rfl) rfl (FnSpec.keep [iR B c' s] fun m I' hle hm' hv => Cells_spec b A B c c' L s k1 most I' (hL.mono hle) hk1 (by obtain ⟨m1, hm1, h1⟩ := Stars.get 0 hv rfl; exact Vec.sliceOf (hm1.trans hm') h1) hs (by omega)) (by (exact Ent.auto)) ?_
  rintro _ _ ⟨_, ⟨bt, t, k2, rfl, htl, hte, hk2, rfl⟩, rfl⟩
  have hT : Table s t := ⟨htl, fun j hj => by have := hte j hj; omega⟩
  repeat' first
    | ((with_reducible refine Nx.is_wp ?_); first | refine Nx.wo ?_ | refine Nx.p_drawF (id := 3) rfl [0, 1, 2, 3, 4, 5, 6, 7, 8, 9] [6, 7] [] _ rfl rfl (by kernel_rfl) (by kernel_rfl) rfl (by repeat first | exact PanicOk.fn | refine PanicOk.then_ ?_ | refine PanicOk.inB ?_) ((Ent.eraseK 4 _).trans (Ent.eraseK 2 _)) ?_ | refine Nx.zp (fun hc => ?_) (fun hc => ?_))
    | (refine Nx.zo ?_; first | refine Nx.opr rfl rfl ?_ | (refine Nx.call rfl rfl rfl (by kernel_rfl) rfl (FnSpec.keep [iR B c' s, iR (some ⟨bt, 0, none⟩) t.length t] fun m I' hle hm' hv => Releases_made b A B (some ⟨bt, 0, none⟩) c c' t.length L s t k2 n I' (hL.mono hle) hk2 (by obtain ⟨m1, hm1, h1⟩ := Stars.get 0 hv rfl; exact Vec.sliceOf (hm1.trans hm') h1) hs (by obtain ⟨m1, hm1, h1⟩ := Stars.get 1 hv rfl; exact Vec.sliceOf (hm1.trans hm') h1) hT hn) (by (exact Ent.auto)) ?_; rintro _ _ ⟨_, ⟨As, ca, rs, k3, rfl, hrn, hro, hk3, rfl⟩, rfl⟩) | refine Nx.so ?_ | refine Nx.sb (fun bx => ?_) | refine Nx.sa (fun A2 c2 => ?_))
    | ((with_reducible refine Nx.is_at ?_); first | refine Nx.a ?_ | refine Nx.zd ?_ | refine Nx.zs (fun hc => ?_) (fun hc => ?_))
    | ((with_reducible refine Nx.is_mix ?_); first | refine Nx.m ?_ | refine Nx.zm ?_ | refine Nx.zt (fun hc => ?_) (fun hc => ?_))
    | refine Nx.zx ?_ | fail
  exact Nx.ret3 rfl (ROne.cell 0 rfl rfl rfl rfl rfl) (ROne.tmp rfl) (ROne.tmp rfl) [_, _, _, _, _] ⟨B, c', s, _, _, t, As, ca, rs, k3, rfl, ⟨hs, hs8⟩, ⟨htl, hte⟩, hrn, hro, hk3, rfl⟩ (by (exact Ent.auto))
set_option maxRecDepth 10000 in
set_option maxHeartbeats 8000000 in
theorem Equations_made8 (b : Nat) (A : Option Addr) (c : Nat) (L : List Int) (k most : Nat) (I : PH) (hL : CodesOk I A c L) (hk : k ≤ L.length) (hm : most ≤ 1000) :
    FnSpec Tryz.prog 11 [.pointer (some ⟨b, 0, none⟩), .int .i64 (most : Int)] I [CodesR b A c L k]
      (fun u R' => ∃ (N : Nat) (At : Option Addr) (ct : Nat) (t : List Int) (A' : Option Addr) (c' : Nat) (qs : List EqR) (k' : Nat), u = .tuple #[.int .i64 (N : Int), .slice At t.length ct, .slice A' qs.length c'] ∧ (EqsOk N t most qs ∧ N ≤ 8) ∧ k' ≤ L.length ∧ R' = iR At ct t :: (eqsR A' c' qs ++ [CodesR b A c L k'])) := by
  refine FnSpec.enterP Tryz.func11 rfl Tryz.ntmps11 rfl fun w F => ?_
  repeat' first
    | ((with_reducible refine Nx.is_wp ?_); first | refine Nx.wo ?_ | refine Nx.zp (fun hc => ?_) (fun hc => ?_))
    | (refine Nx.zo ?_; first | refine Nx.opr rfl rfl ?_ | (refine Nx.call rfl rfl rfl (by kernel_rfl) rfl (Told_made8 b A c L k most 3 I hL hk hm (by omega)) (by (exact Ent.auto)) ?_; rintro _ _ ⟨B, c', s, At, ct, t, As, ca, rs, k3, rfl, ⟨hs, hs8⟩, hT, hrn, hro, hk3, rfl⟩) | (refine Nx.call rfl rfl rfl (by kernel_rfl) rfl (FnSpec.keep [iR B c' s, Vec 116 3 As rs.length ca (rs.flatMap relC), Stars (rs.map relR)] fun m I' hle hm' hv => REAll_spec B As c' ca s rs I' (by obtain ⟨m1, hm1, h1⟩ := Stars.get 0 hv rfl; exact Vec.sliceOf (hm1.trans hm') h1) hs (by obtain ⟨m1, hm1, h1⟩ := Stars.get 1 hv rfl; obtain ⟨m2, hm2, h2⟩ := Stars.get 2 hv rfl; exact rels_of hm' h1 hm1 h2 hm2) (relsV_of hs hT (by omega) (by omega) hro (by omega))) (by (exact Ent.auto)) ?_; rintro _ _ ⟨_, ⟨Ao, co, ps, rfl, hps, hpl, rfl⟩, rfl⟩) | (refine Nx.call rfl rfl rfl (by kernel_rfl) rfl (FnSpec.keep [iR B c' s] fun m I' hle hm' hv => RCount_spec B c' s I' (by obtain ⟨m1, hm1, h1⟩ := Stars.get 0 hv rfl; exact Vec.sliceOf (hm1.trans hm') h1) hs) (by (exact Ent.auto)) ?_; rintro _ _ ⟨_, ⟨rfl, rfl⟩, rfl⟩) | refine Nx.so ?_ | refine Nx.sb (fun bx => ?_) | refine Nx.sa (fun A2 c2 => ?_))
    | ((with_reducible refine Nx.is_at ?_); first | refine Nx.a ?_ | refine Nx.zd ?_ | refine Nx.zs (fun hc => ?_) (fun hc => ?_))
    | ((with_reducible refine Nx.is_mix ?_); first | refine Nx.m ?_ | refine Nx.zm ?_ | refine Nx.zt (fun hc => ?_) (fun hc => ?_))
    | refine Nx.zx ?_ | fail
  have hall : ∀ q ∈ ps, GoodE (prod s).toNat q ∧ sumC t (eqn q).1 = q.2 := fun q hq => told_eq hs hT (by omega) (by omega) hro (by omega) (hps ▸ List.mem_map.2 ⟨q, hq, rfl⟩)
  have hpr := hs.bound (k := s.length) (Nat.le_refl _)
  rw [List.take_length] at hpr
  have hpc := hs.cells
  refine Nx.p_loop (σ := Nat × Option Addr × Nat) (fun z => [(8, .slice At t.length ct), (10, .slice Ao ps.length co), (12, .int .i64 (prod s)), (13, .slice z.2.1 (ps.take (min z.1 8)).length z.2.2), (30, .slice Ao ps.length co), (31, .int .i64 ps.length), (32, .int .i64 (z.1 : Int))])
    (fun z => Vec 46 2 Ao ps.length co (ps.flatMap eqC) :: Vec 46 2 z.2.1 (ps.take (min z.1 8)).length z.2.2 ((ps.take (min z.1 8)).flatMap eqC) :: Stars (ps.map fun q => rowR q.1) :: iR At ct t :: [CodesR b A c L k3, F]) (fun z => z.1 ≤ ps.length) (fun z => ps.length - z.1) (0, none, 0) rfl (Nat.zero_le _) ⟨rfl, rfl, rfl, rfl, rfl, rfl, rfl, trivial⟩ ((Ent.vec_nil 46 2 _).trans (by unfold eqsR toldR; (exact Ent.auto))) ?_
  rintro ⟨i, Ap, cp⟩ hi
  dsimp only at hi ⊢
  by_cases hiv : i < ps.length
  case neg =>
    obtain rfl : i = ps.length := by omega
    repeat' first
      | ((with_reducible refine Nx.is_wp ?_); first | refine Nx.wo ?_ | refine Nx.zp (fun hc => ?_) (fun hc => ?_))
      | (refine Nx.zo ?_; first | refine Nx.opr rfl rfl ?_ | refine Nx.so ?_ | refine Nx.sb (fun bx => ?_) | refine Nx.sa (fun A2 c2 => ?_))
      | ((with_reducible refine Nx.is_at ?_); first | refine Nx.a ?_ | refine Nx.zd ?_ | refine Nx.zs (fun hc => ?_) (fun hc => ?_))
      | ((with_reducible refine Nx.is_mix ?_); first | refine Nx.m ?_ | refine Nx.zm ?_ | refine Nx.zt (fun hc => ?_) (fun hc => ?_))
      | refine Nx.zx ?_ | fail
    refine Nx.ret_fn rfl [iR At ct t, Vec 46 2 Ap (ps.take (min ps.length 8)).length cp ((ps.take (min ps.length 8)).flatMap eqC), Stars ((ps.take (min ps.length 8)).map fun q => rowR q.1), CodesR b A c L k3] ⟨(prod s).toNat, At, ct, t, Ap, cp, ps.take (min ps.length 8), k3, by rw [show (((prod s).toNat : Nat) : Int) = prod s by omega], ⟨⟨by omega, hT.1, hT.2, by rw [List.length_take]; omega, fun q hq => (hall q (List.mem_of_mem_take hq)).1, fun q hq => (hall q (List.mem_of_mem_take hq)).2⟩, by omega⟩, hk3, rfl⟩ ?_
    refine Ent.trans (R' := Stars (ps.map fun q => rowR q.1) :: [Vec 46 2 Ap (ps.take (min ps.length 8)).length cp ((ps.take (min ps.length 8)).flatMap eqC), iR At ct t, CodesR b A c L k3, F]) (by (exact Ent.auto)) ?_
    have hsp : (ps.map fun q => rowR q.1) = ((ps.take (min ps.length 8)).map fun q => rowR q.1) ++ ((ps.drop (min ps.length 8)).map fun q => rowR q.1) := by rw [← List.map_append, List.take_append_drop]
    rw [hsp]
    exact Ent.stars_pre.trans (by (exact Ent.auto))
  have hmt := min_take hiv
  by_cases h8 : i < 8
  · rw [if_pos h8] at hmt
    have hln : (ps.take (min i 8)).length = i := by rw [List.length_take]; omega
    generalize ps.take (min i 8) = out at hmt hln
    subst hln
    have hcl : eqC (ps.getD out.length default) = [.slice (ps.getD out.length default).1.1 (ps.getD out.length default).1.2.2.length (ps.getD out.length default).1.2.1, .int .i64 (ps.getD out.length default).2] := rfl
    refine Nx.vec_fact fun _ _ _ hAo => ?_
    repeat' first
      | ((with_reducible refine Nx.is_wp ?_); first | refine Nx.wo ?_ | refine Nx.zp (fun hc => ?_) (fun hc => ?_))
      | (refine Nx.zo ?_; first | refine Nx.opr rfl rfl ?_ | refine Nx.indexAddr_nat (A := Ao) (sz := 2) rfl rfl rfl rfl rfl hiv (hAo (by omega)) ?_ | refine Nx.loads rfl rfl rfl rfl (Rds.vecN 0 eqC_len rfl hiv) rfl ?_ | refine Nx.so ?_ | refine Nx.sb (fun bx => ?_) | refine Nx.sa (fun A2 c2 => ?_))
      | ((with_reducible refine Nx.is_at ?_); first | refine Nx.a ?_ | refine Nx.zd ?_ | refine Nx.zs (fun hc => ?_) (fun hc => ?_))
      | ((with_reducible refine Nx.is_mix ?_); first | refine Nx.m ?_ | refine Nx.zm ?_ | refine Nx.zt (fun hc => ?_) (fun hc => ?_))
      | refine Nx.zx ?_ | fail
    refine Nx.again (out.length + 1, A2, c2) hiv (by dsimp only; omega) ⟨rfl, rfl, rfl, by dsimp only; rw [hmt, List.length_append]; rfl, rfl, rfl, rfl, trivial⟩ ?_
    dsimp only
    rw [hmt, List.length_append, List.flatMap_append, List.flatMap_cons, List.flatMap_nil, List.append_nil]
    (exact Ent.auto)
  · rw [if_neg h8] at hmt
    have hln : (ps.take (min i 8)).length = 8 := by rw [List.length_take]; omega
    rw [← hmt] at hln
    rw [← hmt]
    generalize hout : ps.take (min (i + 1) 8) = out at hln
    repeat' first
      | ((with_reducible refine Nx.is_wp ?_); first | refine Nx.wo ?_ | refine Nx.zp (fun hc => ?_) (fun hc => ?_))
      | (refine Nx.zo ?_; first | refine Nx.opr rfl rfl ?_ | refine Nx.so ?_ | refine Nx.sb (fun bx => ?_) | refine Nx.sa (fun A2 c2 => ?_))
      | ((with_reducible refine Nx.is_at ?_); first | refine Nx.a ?_ | refine Nx.zd ?_ | refine Nx.zs (fun hc => ?_) (fun hc => ?_))
      | ((with_reducible refine Nx.is_mix ?_); first | refine Nx.m ?_ | refine Nx.zm ?_ | refine Nx.zt (fun hc => ?_) (fun hc => ?_))
      | refine Nx.zx ?_ | fail
    exact Nx.again (i + 1, Ap, cp) hiv (by dsimp only; omega) ⟨rfl, rfl, rfl, by dsimp only; rw [hout]; rfl, rfl, rfl, rfl, trivial⟩ (by dsimp only; rw [hout]; (exact Ent.auto))
end Go.Proofs.YtpcnapidlhpbkaaGreatDoor
/- Contracts of functions of the given program, and lemmas about plain lists and numbers: what the laws of this seat lean on. -/
namespace Go.Proofs.YtpcnapidlhpbkaaGreatDoor
open Go.Eng Go.Sol
attribute [local irreducible] opK wpList Code.wp Exit.then Exit.inBlock fnPost bodyPost Nx Calls Oper.wp Rd Rds Wr Ent Stars Blk Again Vec FnSpec wpMix QRun Stop Upto wpAt
/-! Plain: equations with which a table agrees -/
theorem valid30 {N : Nat} {qs : List EqR} (hN : 1 ≤ N ∧ N ≤ 48) (hl : qs.length ≤ 1152) (hg : ∀ q ∈ qs, GoodE N q) : validB (N : Int) qs = true := by
  unfold validB
  rw [decide_eq_true (show 1 ≤ (N : Int) ∧ (N : Int) ≤ 48 by omega), decide_eq_true hl]
  exact List.all_eq_true.2 fun q hq => rightB_iff.2 (hg q hq)
theorem sumC_bd {t : List Int} {most : Int} (h0 : 0 ≤ most) (ht : ∀ j, j < t.length → 0 ≤ t.getD j default ∧ t.getD j default ≤ most) : ∀ cs : List Nat, sumC t cs ≤ most * (cs.length : Int)
  | [] => by show (0 : Int) ≤ most * ((0 : Nat) : Int); omega
  | c :: cs => by
    have ih := sumC_bd h0 ht cs
    have hc : t.getD c 0 ≤ most := by
      by_cases h : c < t.length
      · exact (ht c h).2
      · rw [List.getD_eq_getElem?_getD, List.getElem?_eq_none (by omega)]; exact h0
    rw [sumC, List.length_cons]
    have : most * ((cs.length + 1 : Nat) : Int) = most * (cs.length : Int) + most := by rw [Int.natCast_add, Int.mul_add]; simp
    omega
theorem EqsOk.small {N : Nat} {t : List Int} {most : Int} {qs : List EqR} (h : EqsOk N t most qs) (hN : N ≤ 8) (h0 : 0 ≤ most) (hm : most ≤ 100) {q : EqR} (hq : q ∈ qs) : q.2 ≤ 1000 := by
  have hg := h.good q hq
  have h1 := sumC_bd h0 h.tab (eqn q).1
  rw [h.sum q hq] at h1
  have h2 : (eqn q).1.length ≤ 8 := by
    unfold eqn
    rw [List.length_map]
    have := asc_len (a := 0) (n := N) hg.asc fun y hy => by have := hg.lt y hy; omega
    omega
  have : most * ((eqn q).1.length : Int) ≤ 100 * 8 := Int.mul_le_mul hm (by omega) (by omega) (by omega)
  omega
theorem EqsOk.beq {N : Nat} {t : List Int} {most : Int} {qs : List EqR} (h : EqsOk N t most qs) (hN : N ≤ 8) (h0 : 0 ≤ most) (hm : most ≤ 100) : BEq N qs := ⟨by have := h.n; omega, by have := h.few; omega, h.good, fun _ hq => h.small hN h0 hm hq⟩
theorem chkB_of {N : Nat} {qs : List EqR} (h : BEq N qs) (hv : validB (N : Int) qs = true) {k : Int} (hk : 0 ≤ k ∧ k < N) : chkB (N : Int) qs k = 0 := by
  have hn := h.cnt
  have hl := h.len
  unfold chkB
  rw [if_neg, if_neg (by omega), if_neg]
  · rintro (h1 | h1)
    · obtain ⟨q, hq, hb⟩ := List.any_eq_true.1 h1
      have := h.val q hq
      have hb' : 1000 < q.2 := of_decide_eq_true hb
      omega
    · exact h1 hk
  · rintro (h1 | h1)
    · exact h1 (by omega)
    · rw [hv] at h1; cases h1
def tabF (t : List Int) : Nat → Rat := fun k => ((t.getD k 0 : Int) : Rat)
theorem ls_tab (t : List Int) : ∀ cs : List Nat, Bl.ls (cs.map (tabF t)) = ((sumC t cs : Int) : Rat)
  | [] => rfl
  | c :: cs => by
    rw [List.map_cons, Bl.ls, ls_tab t cs, sumC, Rat.intCast_add]; rfl
/-- The table is a point. -/
theorem EqsOk.feas {N : Nat} {t : List Int} {most : Int} {qs : List EqR} (h : EqsOk N t most qs) : Bl.Feas (toQ N qs) (tabF t) := by
  have hlen := h.len
  refine ⟨fun k hk => ?_, fun i hi => ?_⟩
  · have hk : k < N := hk
    have := (h.tab k (by omega)).1
    have e : (0 : Rat) = ((0 : Int) : Rat) := rfl
    rw [e]
    exact Rat.intCast_le_intCast.2 this
  · have hm : qs.getD i default ∈ qs := getD_memQ hi
    have hg := h.good _ hm
    have h1 := h.sum _ hm
    have h2 := ls_tab t (eqn (qs.getD i default)).1
    rw [h1] at h2
    have h3 := Bl.ls_asc (tabF t) N (qs.getD i default).1.2.2 hg.asc (fun x hx => hg.lt x hx)
    rw [show (toQ N qs).val i = (qs.getD i default).2 from rfl, ← h2]
    unfold eqn
    rw [List.map_map]
    exact h3.symm
theorem eqs30 {A : Option Addr} {c : Nat} {qs : List EqR} {m m1 m2 I' : PH} (hm : PH.le m I') (h1 : Vec 46 2 A qs.length c (qs.flatMap eqC) m1) (hm1 : PH.le m1 m) (h2 : Stars (qs.map fun q => rowR q.1) m2) (hm2 : PH.le m2 m) : Eqs I' A c qs := by
  refine ⟨Vec.sliceN (t := 46) (hm1.trans hm) h1 fun x _ => eqC_len x, fun q hq => ?_⟩
  obtain ⟨i, hi, rfl⟩ := List.mem_iff_getElem.1 hq
  obtain ⟨m3, d3, h3⟩ := Stars.nth (i := i) (r := rowR qs[i].1) h2 (by rw [List.getElem?_map, List.getElem?_eq_getElem hi]; rfl)
  exact Vec.sliceOf (t := 3) ((d3.trans hm2).trans hm) h3
theorem Nx.giveEq30 {C : Cx} {e : Env} {I : PH} {R : List Res} {K : Act → World → Prop} {At A : Option Addr} {ct c : Nat} {t : List Int} {qs : List EqR} {RR : List Res}
    (hR : Ent R (Stars (iR At ct t :: eqsR A c qs) :: RR)) (h : ∀ I', PH.le I I' → Ints I' At ct t → Eqs I' A c qs → Nx C e I' RR K) : Nx C e I R K := by
  refine Nx.ent hR ?_
  refine Nx.freezeAt 0 rfl fun I1 m1 hI1 hm1 h1 => ?_
  obtain ⟨a1, ha1, b1⟩ := Stars.get 0 h1 rfl
  obtain ⟨a2, ha2, b2⟩ := Stars.get 1 h1 rfl
  obtain ⟨a3, ha3, b3⟩ := Stars.get 2 h1 rfl
  exact h I1 hI1 (Vec.sliceOf (ha1.trans hm1) b1) (eqs30 hm1 b2 ha2 b3 ha3)
set_option maxHeartbeats 8000000 in
/-- What Bounds answers for made equations. -/
theorem bBounds_made {N : Nat} {t : List Int} {most : Int} {qs : List EqR} (h : EqsOk N t most qs) (hN : N ≤ 8) (h0 : 0 ≤ most) (hm : most ≤ 100) (A : Option Addr) (c : Nat) (I : PH) (hl : Eqs I A c qs) (hT : TabI I) :
    FnSpec Tryz.prog 17 [.int .i64 (N : Int), .slice A qs.length c] I []
      (fun v R' => ∃ (A' : Option Addr) (c' : Nat) (L : List IvR), L.length = N ∧ (∀ k, k < N → IvOk (toQ N qs) k (L.getD k default)) ∧ v = .tuple #[.slice A' L.length c', .int .i64 0] ∧ R' = [Vec 50 5 A' L.length c' (L.flatMap ivC)]) := by
  have hn := h.n
  have hc := chkB_of (h.beq hN h0 hm) (valid30 h.n (by have := h.few; omega) h.good) (k := 0) (by omega)
  refine FnSpec.mono (bBounds_spec (N : Int) A c qs I hl hT) fun v R' hv => ?_
  rcases hv.2 hc with ⟨hno, _⟩ | ⟨_, A', c', L, hL, hok, h1, h2⟩
  · exact absurd ⟨_, h.feas⟩ hno
  · rw [Int.toNat_natCast] at hL hok
    exact ⟨A', c', L, hL, hok, h1, h2⟩
end Go.Proofs.YtpcnapidlhpbkaaGreatDoor
/- Contracts of functions of the given program, and lemmas about plain lists and numbers: what the laws of this seat lean on. -/
namespace Go.Proofs.YtpcnapidlhpbkaaGreatDoor
open Go.Eng Go.Sol
theorem Rds.sub {W : World} {I : PH} {R : List Res} {A : Addr} {vs us : List Value} (h : Rds W I R A vs) (o : Nat) (hs : ∀ j u, us[j]? = some u → vs[o + j]? = some u) : Rds W I R (A.add o) us := fun j u hj => by
  have := h (o + j) u (hs j u hj)
  rwa [← Addr.add_add] at this
theorem iv_low {W : World} {I : PH} {R : List Res} {A : Option Addr} {c : Nat} {L : List IvR} {k : Nat} (h : SliceN ivC 5 I A c L) (hk : k < L.length) : Rds W I R (((ad A).add (k * 5)).add 0) (ratC (L.getD k default).1) := Rds.sub (h.rds hk) 0 fun j u hj => by
  match j, hj with
  | 0, hj => exact hj
  | 1, hj => exact hj
  | j + 2, hj => cases hj
theorem iv_high {W : World} {I : PH} {R : List Res} {A : Option Addr} {c : Nat} {L : List IvR} {k : Nat} (h : SliceN ivC 5 I A c L) (hk : k < L.length) : Rds W I R (((ad A).add (k * 5)).add 2) (ratC (L.getD k default).2.1) := Rds.sub (h.rds hk) 2 fun j u hj => by
  match j, hj with
  | 0, hj => exact hj
  | 1, hj => exact hj
  | j + 2, hj => cases hj
theorem iv_open {W : World} {I : PH} {R : List Res} {A : Option Addr} {c : Nat} {L : List IvR} {k : Nat} (h : SliceN ivC 5 I A c L) (hk : k < L.length) : Rd W I R (((ad A).add (k * 5)).add 4) (.bool (L.getD k default).2.2) := h.rds hk 4 _ rfl
attribute [local irreducible] opK wpList Code.wp Exit.then Exit.inBlock fnPost bodyPost Nx Calls Oper.wp Rd Rds Wr Ent Stars Blk Again Vec FnSpec wpMix QRun Stop Upto wpAt
/-! Sums of bounds -/
end Go.Proofs.YtpcnapidlhpbkaaGreatDoor
/-
  Plain: the solutions of equations found cell by cell in the order of the cells, with what is left of each equation.
-/
namespace Go.Sol
/-- The least value of the equations in which a cell is, plus 1; 0 if it is in none. -/
def roomR (L : List Eqn) (c : Nat) : Int := L.foldl (fun a q => if c ∈ q.1 then (if a = 0 ∨ q.2 + 1 < a then q.2 + 1 else a) else a) 0
/-- How far a cell can go, where so much is left of each equation. -/
def gtF (t : List Int) (c : Nat) (a : Int) (L : List Eqn) : Int := L.foldl (fun a q => if c ∈ q.1 then min a (restQ t q) else a) a
def topF (L : List Eqn) (t : List Int) : Int := gtF t t.length (max 0 (roomR L t.length - 1)) L
/-- Whether the equations whose last cell has just got its number are right. -/
def fitB (L : List Eqn) (t : List Int) : Bool := L.all fun q => !decide (q.1.getLast? = some (t.length - 1)) || decide (restQ t q = 0)
def rs (L : List Eqn) : Nat → List Int → List (List Int)
  | 0, t => if L.all (fun q => decide (restQ t q = 0)) then [t] else []
  | k + 1, t => (List.range (topF L t + 1).toNat).flatMap fun (n : Nat) => if fitB L (t ++ [(n : Int)]) then rs L k (t ++ [(n : Int)]) else []
/-- Equations over cells below N, ascending. -/
structure Asc (N : Nat) (L : List Eqn) : Prop where
  asc : ∀ q ∈ L, q.1.Pairwise (· < ·)
  lt : ∀ q ∈ L, ∀ c ∈ q.1, c < N
  val : ∀ q ∈ L, 0 ≤ q.2
theorem Asc.once {N : Nat} {L : List Eqn} (h : Asc N L) : Once L := fun q hq => (h.asc q hq).imp fun h => Nat.ne_of_lt h
/-- A table that goes on from a shorter one. -/
structure From (L : List Eqn) (k : Nat) (t s : List Int) : Prop where
  len : s.length = t.length + k
  pre : s.take t.length = t
  pos : ∀ c, t.length ≤ c → 0 ≤ s.getD c 0 ∧ ((∀ q ∈ L, c ∉ q.1) → s.getD c 0 = 0)
  sum : ∀ q ∈ L, sumC s q.1 = q.2
end Go.Sol
/- Contracts of functions of the given program, and lemmas about plain lists and numbers: what the laws of this seat lean on. -/
namespace Go.Proofs.YtpcnapidlhpbkaaGreatDoor
open Go.Eng Go.Sol
attribute [local irreducible] opK wpList Code.wp Exit.then Exit.inBlock fnPost bodyPost Nx Calls Oper.wp Rd Rds Wr Ent Stars Blk Again Vec FnSpec wpMix QRun Stop Upto wpAt
/-! The reference's test of equations -/
theorem all_dropQ {n : Int} {l : List EqR} {k : Nat} (hk : k < l.length) : (l.drop k).all (rightB n) = (rightB n (l.getD k default) && (l.drop (k + 1)).all (rightB n)) := by
  rw [List.drop_eq_getElem_cons hk, List.all_cons, List.getD_eq_getElem?_getD, List.getElem?_eq_getElem hk]; rfl
set_option maxRecDepth 10000 in
set_option maxHeartbeats 8000000 in
theorem RValid_spec (n : Int) (A : Option Addr) (c : Nat) (l : List EqR) (I : PH) (hl : Eqs I A c l) :
    FnSpec Tryz.prog 49 [.int .i64 n, .slice A l.length c] I [] (fun v R' => v = .bool (validB n l) ∧ R' = []) := by
  have hlen := hl.len
  unfold validB
  refine FnSpec.enterP Tryz.func49 rfl Tryz.ntmps49 rfl fun w F => ?_
  by_cases h1 : n < 1
  · rw [decide_eq_false (show ¬(1 ≤ n ∧ n ≤ 48) by omega), Bool.false_and, Bool.false_and]
    repeat' first
      | ((with_reducible refine Nx.is_wp ?_); first | refine Nx.wo ?_ | refine Nx.zp (fun hc => ?_) (fun hc => ?_))
      | (refine Nx.zo ?_; first | refine Nx.opr rfl rfl ?_ | refine Nx.so ?_ | refine Nx.sb (fun bx => ?_) | refine Nx.sa (fun A2 c2 => ?_))
      | ((with_reducible refine Nx.is_at ?_); first | refine Nx.a ?_ | refine Nx.zd ?_ | refine Nx.zs (fun hc => ?_) (fun hc => ?_))
      | ((with_reducible refine Nx.is_mix ?_); first | refine Nx.m ?_ | refine Nx.zm ?_ | refine Nx.zt (fun hc => ?_) (fun hc => ?_))
      | refine Nx.zx ?_ | fail
    exact Nx.ret_fn rfl [] ⟨rfl, rfl⟩ (by (exact Ent.auto))
  by_cases h2 : 48 < n
  · rw [decide_eq_false (show ¬(1 ≤ n ∧ n ≤ 48) by omega), Bool.false_and, Bool.false_and]
    repeat' first
      | ((with_reducible refine Nx.is_wp ?_); first | refine Nx.wo ?_ | refine Nx.zp (fun hc => ?_) (fun hc => ?_))
      | (refine Nx.zo ?_; first | refine Nx.opr rfl rfl ?_ | refine Nx.so ?_ | refine Nx.sb (fun bx => ?_) | refine Nx.sa (fun A2 c2 => ?_))
      | ((with_reducible refine Nx.is_at ?_); first | refine Nx.a ?_ | refine Nx.zd ?_ | refine Nx.zs (fun hc => ?_) (fun hc => ?_))
      | ((with_reducible refine Nx.is_mix ?_); first | refine Nx.m ?_ | refine Nx.zm ?_ | refine Nx.zt (fun hc => ?_) (fun hc => ?_))
      | refine Nx.zx ?_ | fail
    exact Nx.ret_fn rfl [] ⟨rfl, rfl⟩ (by (exact Ent.auto))
  rw [decide_eq_true (show 1 ≤ n ∧ n ≤ 48 by omega), Bool.true_and]
  by_cases h3 : l.length ≤ 1152
  case neg =>
    rw [decide_eq_false h3, Bool.false_and]
    repeat' first
      | ((with_reducible refine Nx.is_wp ?_); first | refine Nx.wo ?_ | refine Nx.zp (fun hc => ?_) (fun hc => ?_))
      | (refine Nx.zo ?_; first | refine Nx.opr rfl rfl ?_ | refine Nx.so ?_ | refine Nx.sb (fun bx => ?_) | refine Nx.sa (fun A2 c2 => ?_))
      | ((with_reducible refine Nx.is_at ?_); first | refine Nx.a ?_ | refine Nx.zd ?_ | refine Nx.zs (fun hc => ?_) (fun hc => ?_))
      | ((with_reducible refine Nx.is_mix ?_); first | refine Nx.m ?_ | refine Nx.zm ?_ | refine Nx.zt (fun hc => ?_) (fun hc => ?_))
      | refine Nx.zx ?_ | fail
    exact Nx.ret_fn rfl [] ⟨rfl, rfl⟩ (by (exact Ent.auto))
  rw [decide_eq_true h3, Bool.true_and]
  repeat' first
    | ((with_reducible refine Nx.is_wp ?_); first | refine Nx.wo ?_ | refine Nx.zp (fun hc => ?_) (fun hc => ?_))
    | (refine Nx.zo ?_; first | refine Nx.opr rfl rfl ?_ | refine Nx.so ?_ | refine Nx.sb (fun bx => ?_) | refine Nx.sa (fun A2 c2 => ?_))
    | ((with_reducible refine Nx.is_at ?_); first | refine Nx.a ?_ | refine Nx.zd ?_ | refine Nx.zs (fun hc => ?_) (fun hc => ?_))
    | ((with_reducible refine Nx.is_mix ?_); first | refine Nx.m ?_ | refine Nx.zm ?_ | refine Nx.zt (fun hc => ?_) (fun hc => ?_))
    | refine Nx.zx ?_ | fail
  refine Nx.p_loop (σ := Nat) (fun k => [(0, .int .i64 n), (21, .slice A l.length c), (22, .int .i64 l.length), (23, .int .i64 (k : Int))])
    (fun _ => [F]) (fun k => k ≤ l.length ∧ l.all (rightB n) = (l.drop k).all (rightB n)) (fun k => l.length - k) 0 rfl ⟨Nat.zero_le _, rfl⟩ ⟨rfl, rfl, rfl, rfl, trivial⟩ (by (exact Ent.auto)) ?_
  rintro k ⟨hk, he⟩
  by_cases hlt : k < l.length
  case neg =>
    obtain rfl : k = l.length := by omega
    rw [List.drop_length] at he
    rw [he]
    repeat' first
      | ((with_reducible refine Nx.is_wp ?_); first | refine Nx.wo ?_ | refine Nx.zp (fun hc => ?_) (fun hc => ?_))
      | (refine Nx.zo ?_; first | refine Nx.opr rfl rfl ?_ | refine Nx.so ?_ | refine Nx.sb (fun bx => ?_) | refine Nx.sa (fun A2 c2 => ?_))
      | ((with_reducible refine Nx.is_at ?_); first | refine Nx.a ?_ | refine Nx.zd ?_ | refine Nx.zs (fun hc => ?_) (fun hc => ?_))
      | ((with_reducible refine Nx.is_mix ?_); first | refine Nx.m ?_ | refine Nx.zm ?_ | refine Nx.zt (fun hc => ?_) (fun hc => ?_))
      | refine Nx.zx ?_ | fail
    exact Nx.ret_fn rfl [] ⟨rfl, rfl⟩ (by (exact Ent.auto))
  rw [all_dropQ hlt] at he
  have hq := hl.inner _ (getD_memQ hlt)
  have hrds : ∀ (W : World) (R : List Res), Rds W I R ((ad A).add (k * 2)) (eqC (l.getD k default)) := fun W R => hl.outer.rds hlt
  generalize l.getD k default = q at he hq hrds
  obtain ⟨⟨Ax, cx, xs⟩, z⟩ := q
  dsimp only at hq
  replace hrds : ∀ (W : World) (R : List Res), Rds W I R ((ad A).add (k * 2)) [.slice Ax xs.length cx, .int .i64 z] := hrds
  have hxl := hq.len
  have hrt : rightB n ((Ax, cx, xs), z) = (decide (xs ≠ []) && decide (0 ≤ z ∧ z ≤ 1000000) && ascB n (-1) xs) := rfl
  rw [hrt] at he
  by_cases h0 : xs = []
  · subst h0
    rw [he]
    repeat' first
      | ((with_reducible refine Nx.is_wp ?_); first | refine Nx.wo ?_ | refine Nx.zp (fun hc => ?_) (fun hc => ?_))
      | (refine Nx.zo ?_; first | refine Nx.opr rfl rfl ?_ | refine Nx.indexAddr_nat rfl rfl rfl rfl rfl (by omega) (hl.outer.isSome (by omega) (by omega)) ?_ | refine Nx.loads rfl rfl rfl rfl (hrds _ _) rfl ?_ | refine Nx.so ?_ | refine Nx.sb (fun bx => ?_) | refine Nx.sa (fun A2 c2 => ?_))
      | ((with_reducible refine Nx.is_at ?_); first | refine Nx.a ?_ | refine Nx.zd ?_ | refine Nx.zs (fun hc => ?_) (fun hc => ?_))
      | ((with_reducible refine Nx.is_mix ?_); first | refine Nx.m ?_ | refine Nx.zm ?_ | refine Nx.zt (fun hc => ?_) (fun hc => ?_))
      | refine Nx.zx ?_ | fail
    exact Nx.ret_fn rfl [] ⟨rfl, rfl⟩ (by (exact Ent.auto))
  have hpos : 0 < xs.length := List.length_pos_iff.2 h0
  rw [decide_eq_true h0, Bool.true_and] at he
  by_cases hz0 : z < 0
  · rw [decide_eq_false (show ¬(0 ≤ z ∧ z ≤ 1000000) by omega), Bool.false_and, Bool.false_and] at he
    rw [he]
    repeat' first
      | ((with_reducible refine Nx.is_wp ?_); first | refine Nx.wo ?_ | refine Nx.zp (fun hc => ?_) (fun hc => ?_))
      | (refine Nx.zo ?_; first | refine Nx.opr rfl rfl ?_ | refine Nx.indexAddr_nat rfl rfl rfl rfl rfl (by omega) (hl.outer.isSome (by omega) (by omega)) ?_ | refine Nx.loads rfl rfl rfl rfl (hrds _ _) rfl ?_ | refine Nx.so ?_ | refine Nx.sb (fun bx => ?_) | refine Nx.sa (fun A2 c2 => ?_))
      | ((with_reducible refine Nx.is_at ?_); first | refine Nx.a ?_ | refine Nx.zd ?_ | refine Nx.zs (fun hc => ?_) (fun hc => ?_))
      | ((with_reducible refine Nx.is_mix ?_); first | refine Nx.m ?_ | refine Nx.zm ?_ | refine Nx.zt (fun hc => ?_) (fun hc => ?_))
      | refine Nx.zx ?_ | fail
    exact Nx.ret_fn rfl [] ⟨rfl, rfl⟩ (by (exact Ent.auto))
  by_cases hz1 : 1000000 < z
  · rw [decide_eq_false (show ¬(0 ≤ z ∧ z ≤ 1000000) by omega), Bool.false_and, Bool.false_and] at he
    rw [he]
    repeat' first
      | ((with_reducible refine Nx.is_wp ?_); first | refine Nx.wo ?_ | refine Nx.zp (fun hc => ?_) (fun hc => ?_))
      | (refine Nx.zo ?_; first | refine Nx.opr rfl rfl ?_ | refine Nx.indexAddr_nat rfl rfl rfl rfl rfl (by omega) (hl.outer.isSome (by omega) (by omega)) ?_ | refine Nx.loads rfl rfl rfl rfl (hrds _ _) rfl ?_ | refine Nx.so ?_ | refine Nx.sb (fun bx => ?_) | refine Nx.sa (fun A2 c2 => ?_))
      | ((with_reducible refine Nx.is_at ?_); first | refine Nx.a ?_ | refine Nx.zd ?_ | refine Nx.zs (fun hc => ?_) (fun hc => ?_))
      | ((with_reducible refine Nx.is_mix ?_); first | refine Nx.m ?_ | refine Nx.zm ?_ | refine Nx.zt (fun hc => ?_) (fun hc => ?_))
      | refine Nx.zx ?_ | fail
    exact Nx.ret_fn rfl [] ⟨rfl, rfl⟩ (by (exact Ent.auto))
  rw [decide_eq_true (show 0 ≤ z ∧ z ≤ 1000000 by omega), Bool.true_and] at he
  repeat' first
    | ((with_reducible refine Nx.is_wp ?_); first | refine Nx.wo ?_ | refine Nx.zp (fun hc => ?_) (fun hc => ?_))
    | (refine Nx.zo ?_; first | refine Nx.opr rfl rfl ?_ | refine Nx.indexAddr_nat rfl rfl rfl rfl rfl (by omega) (hl.outer.isSome (by omega) (by omega)) ?_ | refine Nx.loads rfl rfl rfl rfl (hrds _ _) rfl ?_ | refine Nx.so ?_ | refine Nx.sb (fun bx => ?_) | refine Nx.sa (fun A2 c2 => ?_))
    | ((with_reducible refine Nx.is_at ?_); first | refine Nx.a ?_ | refine Nx.zd ?_ | refine Nx.zs (fun hc => ?_) (fun hc => ?_))
    | ((with_reducible refine Nx.is_mix ?_); first | refine Nx.m ?_ | refine Nx.zm ?_ | refine Nx.zt (fun hc => ?_) (fun hc => ?_))
    | refine Nx.zx ?_ | fail
  revert bx; intro b6
  refine Nx.p_loop (σ := Nat) (fun j => [(0, .int .i64 n), (7, .int .i64 (lastOr (-1) xs j)), (21, .slice A l.length c), (22, .int .i64 l.length), (23, .int .i64 (k : Int)), (42, .slice Ax xs.length cx), (43, .int .i64 xs.length), (44, .int .i64 (j : Int))])
    (fun _ => [F]) (fun j => j ≤ xs.length ∧ ascB n (-1) xs = ascB n (lastOr (-1) xs j) (xs.drop j)) (fun j => xs.length - j) 0 rfl ⟨Nat.zero_le _, rfl⟩ ⟨rfl, rfl, rfl, rfl, rfl, rfl, rfl, rfl, trivial⟩ (by (exact Ent.auto)) ?_
  rintro j ⟨hj, hje⟩
  by_cases hjl : j < xs.length
  case neg =>
    obtain rfl : j = xs.length := by omega
    rw [List.drop_length] at hje
    rw [hje] at he
    repeat' first
      | ((with_reducible refine Nx.is_wp ?_); first | refine Nx.wo ?_ | refine Nx.zp (fun hc => ?_) (fun hc => ?_))
      | (refine Nx.zo ?_; first | refine Nx.opr rfl rfl ?_ | refine Nx.so ?_ | refine Nx.sb (fun bx => ?_) | refine Nx.sa (fun A2 c2 => ?_))
      | ((with_reducible refine Nx.is_at ?_); first | refine Nx.a ?_ | refine Nx.zd ?_ | refine Nx.zs (fun hc => ?_) (fun hc => ?_))
      | ((with_reducible refine Nx.is_mix ?_); first | refine Nx.m ?_ | refine Nx.zm ?_ | refine Nx.zt (fun hc => ?_) (fun hc => ?_))
      | refine Nx.zx ?_ | fail
    exact Nx.again (k + 1) ⟨hlt, by rw [he, ascB, Bool.true_and]⟩ (by omega) ⟨rfl, rfl, rfl, rfl, trivial⟩ (by (exact Ent.auto))
  rw [ascB_at hjl] at hje
  by_cases h4 : lastOr (-1) xs j < xs.getD j default
  · by_cases h5 : xs.getD j default < n
    · rw [decide_eq_true ⟨h4, h5⟩, Bool.true_and] at hje
      repeat' first
        | ((with_reducible refine Nx.is_wp ?_); first | refine Nx.wo ?_ | refine Nx.zp (fun hc => ?_) (fun hc => ?_))
        | (refine Nx.zo ?_; first | refine Nx.opr rfl rfl ?_ | refine Nx.indexAddr_nat rfl rfl rfl rfl rfl (by omega) (hq.isSome (by omega)) ?_ | refine Nx.load rfl rfl rfl (hq.rd (by omega)) ?_ | refine Nx.so ?_ | refine Nx.sb (fun bx => ?_) | refine Nx.sa (fun A2 c2 => ?_))
        | ((with_reducible refine Nx.is_at ?_); first | refine Nx.a ?_ | refine Nx.zd ?_ | refine Nx.zs (fun hc => ?_) (fun hc => ?_))
        | ((with_reducible refine Nx.is_mix ?_); first | refine Nx.m ?_ | refine Nx.zm ?_ | refine Nx.zt (fun hc => ?_) (fun hc => ?_))
        | refine Nx.zx ?_ | fail
      exact Nx.again (j + 1) ⟨hjl, hje⟩ (by omega) ⟨rfl, by unfold lastOr; rw [if_neg (Nat.succ_ne_zero j), Nat.add_sub_cancel]; rfl, rfl, rfl, rfl, rfl, rfl, rfl, trivial⟩ (by (exact Ent.auto))
    · rw [decide_eq_false (by rintro ⟨_, h⟩; exact h5 h), Bool.false_and] at hje
      rw [hje] at he
      rw [he]
      repeat' first
        | ((with_reducible refine Nx.is_wp ?_); first | refine Nx.wo ?_ | refine Nx.zp (fun hc => ?_) (fun hc => ?_))
        | (refine Nx.zo ?_; first | refine Nx.opr rfl rfl ?_ | refine Nx.indexAddr_nat rfl rfl rfl rfl rfl (by omega) (hq.isSome (by omega)) ?_ | refine Nx.load rfl rfl rfl (hq.rd (by omega)) ?_ | refine Nx.so ?_ | refine Nx.sb (fun bx => ?_) | refine Nx.sa (fun A2 c2 => ?_))
        | ((with_reducible refine Nx.is_at ?_); first | refine Nx.a ?_ | refine Nx.zd ?_ | refine Nx.zs (fun hc => ?_) (fun hc => ?_))
        | ((with_reducible refine Nx.is_mix ?_); first | refine Nx.m ?_ | refine Nx.zm ?_ | refine Nx.zt (fun hc => ?_) (fun hc => ?_))
        | refine Nx.zx ?_ | fail
      exact Nx.ret_fn rfl [] ⟨rfl, rfl⟩ (by (exact Ent.auto))
  · rw [decide_eq_false (by rintro ⟨h, _⟩; exact h4 h), Bool.false_and] at hje
    rw [hje] at he
    rw [he]
    repeat' first
      | ((with_reducible refine Nx.is_wp ?_); first | refine Nx.wo ?_ | refine Nx.zp (fun hc => ?_) (fun hc => ?_))
      | (refine Nx.zo ?_; first | refine Nx.opr rfl rfl ?_ | refine Nx.indexAddr_nat rfl rfl rfl rfl rfl (by omega) (hq.isSome (by omega)) ?_ | refine Nx.load rfl rfl rfl (hq.rd (by omega)) ?_ | refine Nx.so ?_ | refine Nx.sb (fun bx => ?_) | refine Nx.sa (fun A2 c2 => ?_))
      | ((with_reducible refine Nx.is_at ?_); first | refine Nx.a ?_ | refine Nx.zd ?_ | refine Nx.zs (fun hc => ?_) (fun hc => ?_))
      | ((with_reducible refine Nx.is_mix ?_); first | refine Nx.m ?_ | refine Nx.zm ?_ | refine Nx.zt (fun hc => ?_) (fun hc => ?_))
      | refine Nx.zx ?_ | fail
    exact Nx.ret_fn rfl [] ⟨rfl, rfl⟩ (by (exact Ent.auto))
/-! Rooms -/
end Go.Proofs.YtpcnapidlhpbkaaGreatDoor
