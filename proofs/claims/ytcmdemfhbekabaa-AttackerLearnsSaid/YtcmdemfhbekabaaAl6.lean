/- Contracts of functions of the given program, and lemmas about plain lists and numbers: what the laws of this seat lean on. -/
import Derived.Test.YtcmdemfhbekabaaAl5
namespace Go.Proofs.Ytcmdemfhbekabaa
open Go.Eng
attribute [local irreducible] opK wpList Code.wp Exit.then Exit.inBlock fnPost bodyPost Nx Calls Oper.wp Rd Rds Wr Ent Stars Blk Again Vec FnSpec wpMix QRun Stop Upto wpAt
theorem RowsOf.mono {I I' : PH} {A : Option Addr} {c : Nat} {v : List Row} (hle : PH.le I I') (h : RowsOf I A c v) : RowsOf I' A c v := ⟨h.outer.mono hle, fun r hr => (h.inner r hr).mono hle⟩
theorem mix_at {gs xs : List Int} {i : Nat} (hl : gs.length = xs.length) (hi : i < xs.length) : (gs.take i ++ xs.drop i).getD i default = xs.getD i default := by
  rw [List.getD_eq_getElem?_getD, List.getElem?_append_right (by rw [List.length_take]; omega), List.length_take, show i - min i gs.length = 0 by omega, List.getElem?_drop, List.getD_eq_getElem?_getD]; rfl
theorem mix_len {gs xs : List Int} {i : Nat} (hl : gs.length = xs.length) (hi : i ≤ xs.length) : (gs.take i ++ xs.drop i).length = xs.length := by
  rw [List.length_append, List.length_take, List.length_drop]; omega
theorem mix_set {gs xs : List Int} {i : Nat} (hl : gs.length = xs.length) (hi : i < xs.length) : (gs.take i ++ xs.drop i).set i (gs.getD i default) = gs.take (i + 1) ++ xs.drop (i + 1) := by
  rw [List.set_append, if_neg (by rw [List.length_take]; omega), List.length_take, show i - min i gs.length = 0 by omega, List.take_succ_eq_append_getElem (by omega), List.append_assoc, List.drop_eq_getElem_cons hi, List.set_cons_zero]
  simp [List.getD_eq_getElem?_getD, List.getElem?_eq_getElem (show i < gs.length by omega)]
theorem map_range_succ (f : Nat → Int) (n : Nat) : (List.range (n + 1)).map f = (List.range n).map f ++ [f n] := by rw [List.range_succ, List.map_append]; rfl
set_option maxHeartbeats 8000000 in
set_option maxRecDepth 10000 in
theorem published_spec (A B : Option Addr) (c cv : Nat) (l : List Int) (v : List Row) (I : PH) (hl : Ints I A c l) (hs : Sizes l) (hv : RowsOf I B cv v) (hw : Viewed l v) :
    FnSpec Try.prog 81 [.agg #[.slice A l.length c], .agg #[.slice B v.length cv]] I [] (fun u R' => ∃ A' c', u = .slice A' (pubs l v).length c' ∧ R' = [Vec 3 1 A' (pubs l v).length c' ((pubs l v).map (Value.int .i64))]) := by
  have hlen := hl.len
  have hd := hs.dims
  have hvl := hw.len
  have hpr := hs.bound (k := l.length) (Nat.le_refl _)
  rw [List.take_length] at hpr
  refine FnSpec.enterP Try.func81 rfl Try.ntmps81 rfl fun w F => ?_
  repeat' first
    | ((with_reducible refine Nx.is_wp ?_); first | refine Nx.wo ?_ | refine Nx.zp (fun hc => ?_) (fun hc => ?_))
    | (refine Nx.zo ?_; first | refine Nx.opr rfl rfl ?_ | refine Nx.so ?_ | refine Nx.sb (fun bx => ?_) | refine Nx.sa (fun A2 c2 => ?_))
    | ((with_reducible refine Nx.is_at ?_); first | refine Nx.a ?_ | refine Nx.zd ?_ | refine Nx.zs (fun hc => ?_) (fun hc => ?_))
    | ((with_reducible refine Nx.is_mix ?_); first | refine Nx.m ?_ | refine Nx.zm ?_ | refine Nx.zt (fun hc => ?_) (fun hc => ?_))
    | refine Nx.zx ?_ | fail
  refine Nx.at_op rfl rfl ?_
  refine Nx.call rfl rfl rfl (by kernel_rfl) rfl (sizes_spec B cv v I hv (by omega) (fun k hk => ?_)) (by (exact Ent.auto)) ?_
  · have := hw.grouped (k := k) (by omega)
    have h1 := (hw.each k (by omega)).1
    have h2 := hs.at (k := k) (by omega)
    have := this.max; have := (hw.grouped (k := k) (by omega)).pos
    omega
  rintro u R' ⟨As, cs, rfl, rfl⟩
  refine Nx.freezeAt 0 rfl fun I' m hle hm hvec => ?_
  have hz : Ints I' As cs (szs v) := Vec.sliceOf hm hvec
  have hl' := hl.mono hle
  have hv' := hv.mono hle
  repeat' first
    | ((with_reducible refine Nx.is_wp ?_); first | refine Nx.wo ?_ | refine Nx.zp (fun hc => ?_) (fun hc => ?_))
    | (refine Nx.zo ?_; first | refine Nx.opr rfl rfl ?_ | refine Nx.callv rfl rfl rfl (by kernel_rfl) rfl (product_spec _ _ _ _ hl' hs) ?_ | refine Nx.so ?_ | refine Nx.sb (fun bx => ?_) | refine Nx.sa (fun A2 c2 => ?_))
    | ((with_reducible refine Nx.is_at ?_); first | refine Nx.a ?_ | refine Nx.zd ?_ | refine Nx.zs (fun hc => ?_) (fun hc => ?_))
    | ((with_reducible refine Nx.is_mix ?_); first | refine Nx.m ?_ | refine Nx.zm ?_ | refine Nx.zt (fun hc => ?_) (fun hc => ?_))
    | refine Nx.zx ?_ | fail
  rename_i b2
  refine Nx.p_loop (σ := Nat × Option Addr × Nat) (fun s => [(2, .pointer (some ⟨b2, 0, none⟩)), (3, .pointer (some ⟨bx, 0, none⟩)), (5, .slice As (szs v).length cs), (6, .slice s.2.1 s.1 s.2.2), (15, .int .i64 (prod l)), (16, .int .i64 (s.1 : Int))])
    (fun s => [Vec 3 1 s.2.1 s.1 s.2.2 (((List.range s.1).map (pubOf l v)).map (Value.int .i64)), Blk b2 27 [.slice A l.length c], Blk bx 35 [.slice B v.length cv], F]) (fun s => s.1 ≤ (prod l).toNat) (fun s => (prod l).toNat - s.1) (0, none, 0) rfl (Nat.zero_le _) ⟨rfl, rfl, rfl, rfl, rfl, rfl, trivial⟩ ((Ent.vec_nil _ _ _).trans (by (exact Ent.auto))) ?_
  rintro ⟨k, A', c'⟩ hk
  dsimp only at hk ⊢
  have hmono : k < (prod l).toNat → (k : Int) < prod l := fun h => by omega
  repeat' first
    | ((with_reducible refine Nx.is_wp ?_); first | refine Nx.wo ?_ | refine Nx.zp (fun hc => ?_) (fun hc => ?_))
    | (refine Nx.zo ?_; first | refine Nx.opr rfl rfl ?_ | refine Nx.so ?_ | refine Nx.sb (fun bx => ?_) | refine Nx.sa (fun A2 c2 => ?_))
    | ((with_reducible refine Nx.is_at ?_); first | refine Nx.a ?_ | refine Nx.zd ?_ | refine Nx.zs (fun hc => ?_) (fun hc => ?_))
    | ((with_reducible refine Nx.is_mix ?_); first | refine Nx.m ?_ | refine Nx.zm ?_ | refine Nx.zt (fun hc => ?_) (fun hc => ?_))
    | refine Nx.zx ?_ | fail
  · refine Nx.at_op rfl rfl ?_
    refine Nx.call rfl rfl rfl (by kernel_rfl) rfl (places_spec A c l k I' hl' hs (by omega)) (Ent.refl _) ?_
    rintro u R' ⟨bp, xs, rfl, hr, hnum, _, rfl⟩
    have hpl := pl_of hs hr hnum
    have hxl := hr.len
    have hgl : (gsOf v xs).length = xs.length := by rw [gsOf_len]; omega
    repeat' first
      | ((with_reducible refine Nx.is_wp ?_); first | refine Nx.wo ?_ | refine Nx.zp (fun hc => ?_) (fun hc => ?_))
      | (refine Nx.zo ?_; first | refine Nx.opr rfl rfl ?_ | refine Nx.so ?_ | refine Nx.sb (fun bx => ?_) | refine Nx.sa (fun A2 c2 => ?_))
      | ((with_reducible refine Nx.is_at ?_); first | refine Nx.a ?_ | refine Nx.zd ?_ | refine Nx.zs (fun hc => ?_) (fun hc => ?_))
      | ((with_reducible refine Nx.is_mix ?_); first | refine Nx.m ?_ | refine Nx.zm ?_ | refine Nx.zt (fun hc => ?_) (fun hc => ?_))
      | refine Nx.zx ?_ | fail
    refine Nx.p_loop (σ := Nat) (fun i => [(2, .pointer (some ⟨b2, 0, none⟩)), (3, .pointer (some ⟨bx, 0, none⟩)), (5, .slice As (szs v).length cs), (6, .slice A' k c'), (15, .int .i64 (prod l)), (16, .int .i64 (k : Int)), (8, .slice (some ⟨bp, 0, none⟩) xs.length xs.length), (23, .slice (some ⟨bp, 0, none⟩) xs.length xs.length), (24, .int .i64 xs.length), (25, .int .i64 (i : Int))])
      (fun i => [Vec 3 1 (some ⟨bp, 0, none⟩) xs.length xs.length (((gsOf v xs).take i ++ xs.drop i).map (Value.int .i64)), Vec 3 1 A' k c' (((List.range k).map (pubOf l v)).map (Value.int .i64)), Blk b2 27 [.slice A l.length c], Blk bx 35 [.slice B v.length cv], F]) (fun i => i ≤ xs.length) (fun i => xs.length - i) 0 rfl (Nat.zero_le _) ⟨rfl, rfl, rfl, rfl, rfl, rfl, rfl, rfl, rfl, rfl, trivial⟩ (by (exact Ent.auto)) ?_
    intro i hi
    have hmx : i < xs.length → ((gsOf v xs).take i ++ xs.drop i).getD i default = xs.getD i default := fun h => mix_at hgl h
    have hml := mix_len hgl hi
    have hxi := hr.each i
    have hwi := hw.each i
    have hgi : i < v.length → (gsOf v xs).getD i default = (v.getD i default).2.2.getD (xs.getD i default).toNat default := gsOf_at v xs i
    by_cases hlt : i < xs.length
    · have hmx := hmx hlt
      have hgi := hgi (by omega)
      repeat' first
        | ((with_reducible refine Nx.is_wp ?_); first | refine Nx.wo ?_ | refine Nx.zp (fun hc => ?_) (fun hc => ?_))
        | (refine Nx.zo ?_; first | refine Nx.opr rfl rfl ?_ | refine Nx.indexAddr_nat rfl rfl rfl rfl rfl (by omega) rfl ?_ | refine Nx.load rfl rfl rfl (Rd.vecEl 0 rfl (by omega)) ?_ | refine Nx.so ?_ | refine Nx.sb (fun bx => ?_) | refine Nx.sa (fun A2 c2 => ?_))
        | ((with_reducible refine Nx.is_at ?_); first | refine Nx.a ?_ | refine Nx.zd ?_ | refine Nx.zs (fun hc => ?_) (fun hc => ?_))
        | ((with_reducible refine Nx.is_mix ?_); first | refine Nx.m ?_ | refine Nx.zm ?_ | refine Nx.zt (fun hc => ?_) (fun hc => ?_))
        | refine Nx.zx ?_ | fail
      repeat' first
        | ((with_reducible refine Nx.is_wp ?_); first | refine Nx.wo ?_ | refine Nx.zp (fun hc => ?_) (fun hc => ?_))
        | (refine Nx.zo ?_; first | refine Nx.opr rfl rfl ?_ | refine Nx.indexAddr_nat rfl rfl rfl rfl rfl (by omega) (hv'.outer.isSome (by omega)) ?_ | refine Nx.load rfl rfl rfl (hv'.outer.rd (by omega)) ?_ | refine Nx.so ?_ | refine Nx.sb (fun bx => ?_) | refine Nx.sa (fun A2 c2 => ?_))
        | ((with_reducible refine Nx.is_at ?_); first | refine Nx.a ?_ | refine Nx.zd ?_ | refine Nx.zs (fun hc => ?_) (fun hc => ?_))
        | ((with_reducible refine Nx.is_mix ?_); first | refine Nx.m ?_ | refine Nx.zm ?_ | refine Nx.zt (fun hc => ?_) (fun hc => ?_))
        | refine Nx.zx ?_ | fail
      refine Nx.at_op rfl rfl ?_
      refine Nx.indexAddr rfl rfl rfl rfl rfl (by omega) (by omega) ((hv'.at (by omega)).isSome (by omega)) ?_
      refine Nx.at_op rfl rfl ?_
      refine Nx.load rfl rfl rfl ((hv'.at (by omega)).rd (by omega)) ?_
      repeat' first
        | ((with_reducible refine Nx.is_wp ?_); first | refine Nx.wo ?_ | refine Nx.zp (fun hc => ?_) (fun hc => ?_))
        | (refine Nx.zo ?_; first | refine Nx.opr rfl rfl ?_ | refine Nx.indexAddr_nat rfl rfl rfl rfl rfl (by omega) rfl ?_ | refine Nx.so ?_ | refine Nx.sb (fun bx => ?_) | refine Nx.sa (fun A2 c2 => ?_))
        | ((with_reducible refine Nx.is_at ?_); first | refine Nx.a ?_ | refine Nx.zd ?_ | refine Nx.zs (fun hc => ?_) (fun hc => ?_))
        | ((with_reducible refine Nx.is_mix ?_); first | refine Nx.m ?_ | refine Nx.zm ?_ | refine Nx.zt (fun hc => ?_) (fun hc => ?_))
        | refine Nx.zx ?_ | fail
      refine Nx.again (i + 1) (by omega) (by omega) ⟨rfl, rfl, rfl, rfl, rfl, rfl, rfl, rfl, rfl, rfl, trivial⟩ ?_
      refine Ent.pickE 0 rfl ?_ (by (exact Ent.auto))
      rw [hmx, ← hgi, mix_set hgl hlt]
    · obtain rfl : i = xs.length := by omega
      have hfull : (gsOf v xs).take xs.length ++ xs.drop xs.length = gsOf v xs := by rw [List.drop_length, List.append_nil, ← hgl, List.take_length]
      rw [hfull]
      repeat' first
        | ((with_reducible refine Nx.is_wp ?_); first | refine Nx.wo ?_ | refine Nx.zp (fun hc => ?_) (fun hc => ?_))
        | (refine Nx.zo ?_; first | refine Nx.opr rfl rfl ?_ | refine Nx.so ?_ | refine Nx.sb (fun bx => ?_) | refine Nx.sa (fun A2 c2 => ?_))
        | ((with_reducible refine Nx.is_at ?_); first | refine Nx.a ?_ | refine Nx.zd ?_ | refine Nx.zs (fun hc => ?_) (fun hc => ?_))
        | ((with_reducible refine Nx.is_mix ?_); first | refine Nx.m ?_ | refine Nx.zm ?_ | refine Nx.zt (fun hc => ?_) (fun hc => ?_))
        | refine Nx.zx ?_ | fail
      refine Nx.freezeAt 0 rfl fun I2 m2 hle2 hm2 hvec2 => ?_
      have hgs : Ints I2 (some ⟨bp, 0, none⟩) (gsOf v xs).length (gsOf v xs) := Vec.sliceOf (t := 3) hm2 (by rw [hgl]; exact hvec2)
      rw [← hgl]
      have hpub : pubOf l v k = if (gsOf v xs).contains (-1) then -1 else numK (szs v) (gsOf v xs) (szs v).length := by rw [hpl, szs_len]; rfl
      repeat' first
        | ((with_reducible refine Nx.is_wp ?_); first | refine Nx.wo ?_ | refine Nx.zp (fun hc => ?_) (fun hc => ?_))
        | (refine Nx.zo ?_; first | refine Nx.opr rfl rfl ?_ | refine Nx.callv rfl rfl rfl (by kernel_rfl) rfl (Contains_spec _ _ _ _ _ hgs) ?_ | refine Nx.callv rfl rfl rfl (by kernel_rfl) rfl (number_spec _ _ _ _ _ _ _ (hz.mono hle2) hgs (hw.sizes hs) (gsOf_in hw hr hc)) ?_ | refine Nx.so ?_ | refine Nx.sb (fun bx => ?_) | refine Nx.sa (fun A2 c2 => ?_))
        | ((with_reducible refine Nx.is_at ?_); first | refine Nx.a ?_ | refine Nx.zd ?_ | refine Nx.zs (fun hc => ?_) (fun hc => ?_))
        | ((with_reducible refine Nx.is_mix ?_); first | refine Nx.m ?_ | refine Nx.zm ?_ | refine Nx.zt (fun hc => ?_) (fun hc => ?_))
        | refine Nx.zx ?_ | fail
      · refine Nx.imm_le hle2 (Nx.again (k + 1, A2, c2) (by dsimp only; omega) (by dsimp only; omega) ⟨rfl, rfl, rfl, rfl, rfl, rfl, trivial⟩ ?_)
        refine Ent.pickE 0 rfl ?_ (by (exact Ent.auto))
        rw [map_range_succ, hpub, if_pos hc, List.map_append]; rfl
      · refine Nx.imm_le hle2 (Nx.again (k + 1, A2, c2) (by dsimp only; omega) (by dsimp only; omega) ⟨rfl, rfl, rfl, rfl, rfl, rfl, trivial⟩ ?_)
        refine Ent.pickE 0 rfl ?_ (by (exact Ent.auto))
        rw [map_range_succ, hpub, if_neg (by rw [hc]; decide), List.map_append]; rfl
  · obtain rfl : k = (prod l).toNat := by omega
    refine Nx.imm_le hle (Nx.ret_fn rfl [_] ⟨A', c', ?_, ?_⟩ (by (exact Ent.auto)))
    · simp [pubs]
    · simp [pubs]
end Go.Proofs.Ytcmdemfhbekabaa
/- Contracts of functions of the given program, and lemmas about plain lists and numbers: what the laws of this seat lean on. -/
namespace Go.Proofs.Ytcmdemfhbekabaa
open Go.Eng
attribute [local irreducible] opK wpList Code.wp Exit.then Exit.inBlock fnPost bodyPost Nx Calls Oper.wp Rd Rds Wr Ent Stars Blk Again Vec FnSpec wpMix QRun Stop Upto wpAt
def memK (l : List Int) (v : List Row) (k : Int) (n : Nat) : List Int := ((List.range n).filter (fun j => decide (pubOf l v j = k))).map (fun j : Nat => (j : Int))
theorem memK_len (l : List Int) (v : List Row) (k : Int) (n : Nat) : (memK l v k n).length ≤ n := by
  unfold memK
  rw [List.length_map]
  exact Nat.le_trans (List.length_filter_le _ _) (by simp)
theorem memK_succ (l : List Int) (v : List Row) (k : Int) (n : Nat) : memK l v k (n + 1) = memK l v k n ++ if pubOf l v n = k then [(n : Int)] else [] := by
  unfold memK
  rw [List.range_succ, List.filter_append, List.map_append]
  by_cases h : pubOf l v n = k <;> simp [h]
theorem pubs_len (l : List Int) (v : List Row) : (pubs l v).length = (prod l).toNat := by simp [pubs]
theorem pubs_at (l : List Int) (v : List Row) (n : Nat) (h : n < (prod l).toNat) : (pubs l v).getD n default = pubOf l v n := map_range_at _ _ _ h
theorem Viewed.szsOk {l : List Int} {v : List Row} (hs : Sizes l) (hw : Viewed l v) : v.length ≤ 4 ∧ ∀ k, k < v.length → 1 ≤ (v.getD k default).2.2.length ∧ -8 ≤ maxL (v.getD k default).2.2 ((v.getD k default).2.2.length - 1) ∧ maxL (v.getD k default).2.2 ((v.getD k default).2.2.length - 1) ≤ 8 := by
  have hd := hs.dims
  have hl := hw.len
  refine ⟨by omega, fun k hk => ?_⟩
  have h1 := (hw.each k (by omega)).1
  have h2 := hs.at (k := k) (by omega)
  have := (hw.grouped (k := k) (by omega)).max; have := (hw.grouped (k := k) (by omega)).pos
  omega
set_option maxHeartbeats 8000000 in
set_option maxRecDepth 10000 in
theorem Published_spec (A B : Option Addr) (c cv : Nat) (l : List Int) (v : List Row) (I : PH) (hl : Ints I A c l) (hs : Sizes l) (hv : RowsOf I B cv v) (hw : Viewed l v) :
    FnSpec Try.prog 77 [.agg #[.slice A l.length c], .agg #[.slice B v.length cv]] I [] (fun u R' => u = .int .i64 (prod (szs v)) ∧ R' = []) := by
  refine FnSpec.enterP Try.func77 rfl Try.ntmps77 rfl fun w F => ?_
  repeat' first
    | ((with_reducible refine Nx.is_wp ?_); first | refine Nx.wo ?_ | refine Nx.zp (fun hc => ?_) (fun hc => ?_))
    | (refine Nx.zo ?_; first | refine Nx.opr rfl rfl ?_ | refine Nx.callv rfl rfl rfl (by kernel_rfl) rfl (View_spec _ _ _ _ _ _ _ hl hs hv hw) ?_ | refine Nx.so ?_ | refine Nx.sb (fun bx => ?_) | refine Nx.sa (fun A2 c2 => ?_))
    | ((with_reducible refine Nx.is_at ?_); first | refine Nx.a ?_ | refine Nx.zd ?_ | refine Nx.zs (fun hc => ?_) (fun hc => ?_))
    | ((with_reducible refine Nx.is_mix ?_); first | refine Nx.m ?_ | refine Nx.zm ?_ | refine Nx.zt (fun hc => ?_) (fun hc => ?_))
    | refine Nx.zx ?_ | fail
  refine Nx.at_op rfl rfl ?_
  refine Nx.call rfl rfl rfl (by kernel_rfl) rfl (sizes_spec B cv v I hv (hw.szsOk hs).1 (hw.szsOk hs).2) (by (exact Ent.auto)) ?_
  rintro u R' ⟨As, cs, rfl, rfl⟩
  refine Nx.freezeAt 0 rfl fun I' m hle hm hvec => ?_
  have hz : Ints I' As cs (szs v) := Vec.sliceOf hm hvec
  repeat' first
    | ((with_reducible refine Nx.is_wp ?_); first | refine Nx.wo ?_ | refine Nx.zp (fun hc => ?_) (fun hc => ?_))
    | (refine Nx.zo ?_; first | refine Nx.opr rfl rfl ?_ | refine Nx.callv rfl rfl rfl (by kernel_rfl) rfl (product_spec _ _ _ _ hz (hw.sizes hs)) ?_ | refine Nx.so ?_ | refine Nx.sb (fun bx => ?_) | refine Nx.sa (fun A2 c2 => ?_))
    | ((with_reducible refine Nx.is_at ?_); first | refine Nx.a ?_ | refine Nx.zd ?_ | refine Nx.zs (fun hc => ?_) (fun hc => ?_))
    | ((with_reducible refine Nx.is_mix ?_); first | refine Nx.m ?_ | refine Nx.zm ?_ | refine Nx.zt (fun hc => ?_) (fun hc => ?_))
    | refine Nx.zx ?_ | fail
  exact Nx.imm_le hle (Nx.ret_fn rfl [] ⟨rfl, rfl⟩ (by (exact Ent.auto)))
set_option maxHeartbeats 8000000 in
set_option maxRecDepth 10000 in
theorem Members_spec (A B : Option Addr) (c cv : Nat) (l : List Int) (v : List Row) (k : Int) (I : PH) (hl : Ints I A c l) (hs : Sizes l) (hv : RowsOf I B cv v) (hw : Viewed l v) (hk : 0 ≤ k ∧ k < prod (szs v)) :
    FnSpec Try.prog 66 [.agg #[.slice A l.length c], .agg #[.slice B v.length cv], .int .i64 k] I [] (fun u R' => ∃ A' c', u = .tuple #[.slice A' (memK l v k (prod l).toNat).length c', .int .i64 0] ∧ R' = [Vec 3 1 A' (memK l v k (prod l).toNat).length c' ((memK l v k (prod l).toNat).map (Value.int .i64))]) := by
  have hpr := hs.bound (k := l.length) (Nat.le_refl _)
  rw [List.take_length] at hpr
  have hpl := pubs_len l v
  refine FnSpec.enterP Try.func66 rfl Try.ntmps66 rfl fun w F => ?_
  repeat' first
    | ((with_reducible refine Nx.is_wp ?_); first | refine Nx.wo ?_ | refine Nx.zp (fun hc => ?_) (fun hc => ?_))
    | (refine Nx.zo ?_; first | refine Nx.opr rfl rfl ?_ | refine Nx.callv rfl rfl rfl (by kernel_rfl) rfl (View_spec _ _ _ _ _ _ _ hl hs hv hw) ?_ | refine Nx.so ?_ | refine Nx.sb (fun bx => ?_) | refine Nx.sa (fun A2 c2 => ?_))
    | ((with_reducible refine Nx.is_at ?_); first | refine Nx.a ?_ | refine Nx.zd ?_ | refine Nx.zs (fun hc => ?_) (fun hc => ?_))
    | ((with_reducible refine Nx.is_mix ?_); first | refine Nx.m ?_ | refine Nx.zm ?_ | refine Nx.zt (fun hc => ?_) (fun hc => ?_))
    | refine Nx.zx ?_ | fail
  refine Nx.at_do rfl rfl rfl rfl ?_
  refine Nx.call rfl rfl rfl (by kernel_rfl) rfl (sizes_spec B cv v I hv (hw.szsOk hs).1 (hw.szsOk hs).2) (by (exact Ent.auto)) ?_
  rintro u R' ⟨As, cs, rfl, rfl⟩
  refine Nx.freezeAt 0 rfl fun I' m hle hm hvec => ?_
  have hz : Ints I' As cs (szs v) := Vec.sliceOf hm hvec
  repeat' first
    | ((with_reducible refine Nx.is_wp ?_); first | refine Nx.wo ?_ | refine Nx.zp (fun hc => ?_) (fun hc => ?_))
    | (refine Nx.zo ?_; first | refine Nx.opr rfl rfl ?_ | refine Nx.callv rfl rfl rfl (by kernel_rfl) rfl (product_spec _ _ _ _ hz (hw.sizes hs)) ?_ | refine Nx.so ?_ | refine Nx.sb (fun bx => ?_) | refine Nx.sa (fun A2 c2 => ?_))
    | ((with_reducible refine Nx.is_at ?_); first | refine Nx.a ?_ | refine Nx.zd ?_ | refine Nx.zs (fun hc => ?_) (fun hc => ?_))
    | ((with_reducible refine Nx.is_mix ?_); first | refine Nx.m ?_ | refine Nx.zm ?_ | refine Nx.zt (fun hc => ?_) (fun hc => ?_))
    | refine Nx.zx ?_ | fail
  refine Nx.at_op rfl rfl ?_
  refine Nx.call rfl rfl rfl (by kernel_rfl) rfl (published_spec A B c cv l v I' (hl.mono hle) hs (hv.mono hle) hw) (by (exact Ent.auto)) ?_
  rintro u R' ⟨Ap, cp, rfl, rfl⟩
  refine Nx.freezeAt 0 rfl fun I2 m2 hle2 hm2 hvec2 => ?_
  have hp : Ints I2 Ap cp (pubs l v) := Vec.sliceOf hm2 hvec2
  have hplen := hp.len
  repeat' first
    | ((with_reducible refine Nx.is_wp ?_); first | refine Nx.wo ?_ | refine Nx.zp (fun hc => ?_) (fun hc => ?_))
    | (refine Nx.zo ?_; first | refine Nx.opr rfl rfl ?_ | refine Nx.so ?_ | refine Nx.sb (fun bx => ?_) | refine Nx.sa (fun A2 c2 => ?_))
    | ((with_reducible refine Nx.is_at ?_); first | refine Nx.a ?_ | refine Nx.zd ?_ | refine Nx.zs (fun hc => ?_) (fun hc => ?_))
    | ((with_reducible refine Nx.is_mix ?_); first | refine Nx.m ?_ | refine Nx.zm ?_ | refine Nx.zt (fun hc => ?_) (fun hc => ?_))
    | refine Nx.zx ?_ | fail
  refine Nx.p_loop (σ := Nat × Option Addr × Nat) (fun s => [(2, .int .i64 k), (9, .slice s.2.1 (memK l v k s.1).length s.2.2), (29, .slice Ap (pubs l v).length cp), (30, .int .i64 (pubs l v).length), (31, .int .i64 (s.1 : Int))])
    (fun s => [Vec 3 1 s.2.1 (memK l v k s.1).length s.2.2 ((memK l v k s.1).map (Value.int .i64)), F]) (fun s => s.1 ≤ (pubs l v).length) (fun s => (pubs l v).length - s.1) (0, none, 0) rfl (Nat.zero_le _) ⟨rfl, rfl, rfl, rfl, rfl, trivial⟩ ((Ent.vec_nil _ _ _).trans (by (exact Ent.auto))) ?_
  rintro ⟨n, A', c'⟩ hn
  dsimp only at hn ⊢
  have hmk := memK_len l v k n
  have hms := memK_succ l v k n
  have hat : n < (pubs l v).length → (pubs l v).getD n default = pubOf l v n := fun h => pubs_at l v n (by omega)
  repeat' first
    | ((with_reducible refine Nx.is_wp ?_); first | refine Nx.wo ?_ | refine Nx.zp (fun hc => ?_) (fun hc => ?_))
    | (refine Nx.zo ?_; first | refine Nx.opr rfl rfl ?_ | refine Nx.indexAddr_nat rfl rfl rfl rfl rfl (by omega) (hp.isSome (by omega)) ?_ | refine Nx.load rfl rfl rfl (hp.rd (by omega)) ?_ | refine Nx.so ?_ | refine Nx.sb (fun bx => ?_) | refine Nx.sa (fun A2 c2 => ?_))
    | ((with_reducible refine Nx.is_at ?_); first | refine Nx.a ?_ | refine Nx.zd ?_ | refine Nx.zs (fun hc => ?_) (fun hc => ?_))
    | ((with_reducible refine Nx.is_mix ?_); first | refine Nx.m ?_ | refine Nx.zm ?_ | refine Nx.zt (fun hc => ?_) (fun hc => ?_))
    | refine Nx.zx ?_ | fail
  · rw [hat (by omega)] at hc
    rw [if_pos hc] at hms
    refine Nx.again (n + 1, A2, c2) (by dsimp only; omega) (by dsimp only; omega) ⟨rfl, by rw [hms, List.length_append]; rfl, rfl, rfl, rfl, trivial⟩ ?_
    refine Ent.pickE 0 rfl ?_ (by (exact Ent.auto))
    rw [hms, List.map_append, List.length_append]; rfl
  · rw [hat (by omega)] at hc
    rw [if_neg hc, List.append_nil] at hms
    refine Nx.again (n + 1, A', c') (by dsimp only; omega) (by dsimp only; omega) ⟨rfl, by rw [hms]; rfl, rfl, rfl, rfl, trivial⟩ ?_
    refine Ent.pickE 0 rfl ?_ (by (exact Ent.auto))
    rw [hms]
  · obtain rfl : n = (prod l).toNat := by omega
    exact Nx.imm_le (hle.trans hle2) (Nx.ret_fn rfl [_] ⟨A', c', rfl, rfl⟩ (by (exact Ent.auto)))
end Go.Proofs.Ytcmdemfhbekabaa
/- Contracts of functions of the given program, and lemmas about plain lists and numbers: what the laws of this seat lean on. -/
namespace Go.Proofs.Ytcmdemfhbekabaa
open Go.Eng
attribute [local irreducible] opK wpList Code.wp Exit.then Exit.inBlock fnPost bodyPost Nx Calls Oper.wp Rd Rds Wr Ent Stars Blk Again Vec FnSpec wpMix QRun Stop Upto wpAt
/-! Publish: sums of a table's numbers -/
def sumAt (p : Nat → Int) (t : List Int) (k : Int) : Nat → Int
  | 0 => 0
  | n + 1 => sumAt p t k n + if p n = k then t.getD n default else 0
theorem sumAt_bd {p : Nat → Int} {t : List Int} {k : Int} (ht : ∀ j, j < t.length → 0 ≤ t.getD j default ∧ t.getD j default ≤ 1000000) : ∀ n, n ≤ t.length → 0 ≤ sumAt p t k n ∧ sumAt p t k n ≤ n * 1000000
  | 0, _ => by simp [sumAt]
  | n + 1, h => by
    have ih := sumAt_bd ht n (by omega) (k := k) (p := p)
    have := ht n (by omega)
    simp only [sumAt]
    split <;> omega
def sums (p : Nat → Int) (t : List Int) (P n : Nat) : List Int := (List.range P).map fun j : Nat => sumAt p t (j : Int) n
theorem sums_len (p : Nat → Int) (t : List Int) (P n : Nat) : (sums p t P n).length = P := by simp [sums]
theorem sums_at (p : Nat → Int) (t : List Int) (P n j : Nat) (h : j < P) : (sums p t P n).getD j default = sumAt p t (j : Int) n := map_range_at _ _ _ h
theorem sums_set {p : Nat → Int} {t : List Int} {P n : Nat} {q : Nat} (hq : (q : Int) = p n) : (sums p t P n).set q ((sums p t P n).getD q default + t.getD n default) = sums p t P (n + 1) := by
  refine list_ext (by simp [sums]) fun j hj => ?_
  rw [List.length_set, sums_len] at hj
  rw [sums_at _ _ _ _ _ hj]
  simp only [sumAt]
  by_cases h : q = j
  · subst h
    rw [getD_set_eq (by rw [sums_len]; exact hj), sums_at _ _ _ _ _ hj, if_pos hq.symm]
  · rw [getD_set_ne h, sums_at _ _ _ _ _ hj, if_neg (by omega), Int.add_zero]
theorem sums_skip {p : Nat → Int} {t : List Int} {P n : Nat} (hq : p n = -1) : sums p t P (n + 1) = sums p t P n := by
  unfold sums
  refine List.map_congr_left fun j _ => ?_
  simp only [sumAt]
  rw [if_neg (by omega), Int.add_zero]
theorem sums_zero (p : Nat → Int) (t : List Int) (P : Nat) : sums p t P 0 = List.replicate P 0 := by
  unfold sums
  simp only [sumAt]
  rw [List.map_const', List.length_range]
structure Table (l t : List Int) : Prop where
  len : t.length = (prod l).toNat
  each : ∀ j, j < t.length → 0 ≤ t.getD j default ∧ t.getD j default ≤ 1000000
theorem Table.out {l t : List Int} (h : Table l t) : t.any outB = false := by
  rw [List.any_eq_false]
  intro x hx
  obtain ⟨k, hk, rfl⟩ := mem_getD hx
  have := h.each k hk
  unfold outB
  rw [decide_eq_true_eq]
  omega
end Go.Proofs.Ytcmdemfhbekabaa
/- Contracts of functions of the given program, and lemmas about plain lists and numbers: what the laws of this seat lean on. -/
namespace Go.Proofs.Ytcmdemfhbekabaa
open Go.Eng
attribute [local irreducible] opK wpList Code.wp Exit.then Exit.inBlock fnPost bodyPost Nx Calls Oper.wp Rd Rds Wr Ent Stars Blk Again Vec FnSpec wpMix QRun Stop Upto wpAt
/-! The reference's places, and the published cell of a cell -/
set_option maxHeartbeats 8000000 in
set_option maxRecDepth 10000 in
theorem RAt_spec (A : Option Addr) (c : Nat) (l : List Int) (n : Int) (I : PH) (hl : Ints I A c l) (hs : Sizes l) (hn : 0 ≤ n ∧ n < prod l) :
    FnSpec Try.prog 41 [.agg #[.slice A l.length c], .int .i64 n] I [] (fun v R' => ∃ b xs, v = .tuple #[.slice (some ⟨b, 0, none⟩) xs.length xs.length, .int .i64 0] ∧ InR l xs ∧ numK l xs l.length = n ∧ R' = [Vec 3 1 (some ⟨b, 0, none⟩) xs.length xs.length (xs.map (Value.int .i64))]) := by
  have hlen := hl.len
  have hd := hs.dims
  refine FnSpec.enterP Try.func41 rfl Try.ntmps41 rfl fun w F => ?_
  repeat' first
    | ((with_reducible refine Nx.is_wp ?_); first | refine Nx.wo ?_ | refine Nx.zp (fun hc => ?_) (fun hc => ?_))
    | (refine Nx.zo ?_; first | refine Nx.opr rfl rfl ?_ | refine Nx.callv rfl rfl rfl (by kernel_rfl) rfl (RCheck_spec _ _ _ _ hl hs) ?_ | refine Nx.callv rfl rfl rfl (by kernel_rfl) rfl (RCount_spec _ _ _ _ hl hs) ?_ | refine Nx.so ?_ | refine Nx.sb (fun bx => ?_) | refine Nx.sa (fun A2 c2 => ?_))
    | ((with_reducible refine Nx.is_at ?_); first | refine Nx.a ?_ | refine Nx.zd ?_ | refine Nx.zs (fun hc => ?_) (fun hc => ?_))
    | ((with_reducible refine Nx.is_mix ?_); first | refine Nx.m ?_ | refine Nx.zm ?_ | refine Nx.zt (fun hc => ?_) (fun hc => ?_))
    | refine Nx.zx ?_ | fail
  rename_i b2
  refine Nx.p_loop (σ := Nat × List Int × Int) (fun s => [(2, .pointer (some ⟨b2, 0, none⟩)), (1, .int .i64 s.2.2), (7, .slice (some ⟨bx, 0, none⟩) l.length l.length), (8, .int .i64 ((s.1 : Int) - 1))])
    (fun s => [Vec 3 1 (some ⟨bx, 0, none⟩) l.length l.length (s.2.1.map (Value.int .i64)), Blk b2 27 [.slice A l.length c], F]) (PlOk l n) (fun s => s.1) (l.length, List.replicate l.length 0, n) rfl
    ⟨Nat.le_refl _, by simp, ⟨hn.1, by rw [List.take_length]; exact hn.2⟩, fun i h1 h2 => absurd h2 (Nat.not_lt.2 h1), by show contF l _ (l.length - l.length) _ n = n; rw [Nat.sub_self]; rfl, fun h => absurd h (Nat.lt_irrefl _), fun _ => rfl⟩ ⟨rfl, rfl, rfl, rfl, trivial⟩ (by (exact Ent.auto)) ?_
  rintro ⟨j, xs, m⟩ hok
  dsimp only
  rcases j with _ | j
  · repeat' first
      | ((with_reducible refine Nx.is_wp ?_); first | refine Nx.wo ?_ | refine Nx.zp (fun hc => ?_) (fun hc => ?_))
      | (refine Nx.zo ?_; first | refine Nx.opr rfl rfl ?_ | refine Nx.so ?_ | refine Nx.sb (fun bx => ?_) | refine Nx.sa (fun A2 c2 => ?_))
      | ((with_reducible refine Nx.is_at ?_); first | refine Nx.a ?_ | refine Nx.zd ?_ | refine Nx.zs (fun hc => ?_) (fun hc => ?_))
      | ((with_reducible refine Nx.is_mix ?_); first | refine Nx.m ?_ | refine Nx.zm ?_ | refine Nx.zt (fun hc => ?_) (fun hc => ?_))
      | refine Nx.zx ?_ | fail
    have h0 : m = 0 := by have := hok.m; simp [prod] at this; omega
    have h1 : xs.length = l.length := hok.len
    refine Nx.ret_fn rfl [_] ⟨bx, xs, by rw [h1], ⟨h1, fun k hk => hok.each k (Nat.zero_le _) hk⟩, ?_, by rw [h1]⟩ (by (exact Ent.auto))
    have h2 := hok.num
    subst h0
    have h3 := contF_num l xs l.length 0
    rw [Nat.zero_add] at h3
    rw [← h3]
    exact h2
  · have hle : j + 1 ≤ l.length := hok.le
    have hxl : xs.length = l.length := hok.len
    have hm := hok.m
    have hb := hs.bound hle
    have hat := hs.at (k := j) (by omega)
    have hm1 : 0 ≤ m ∧ m < prod (l.take (j + 1)) := hm
    rw [show (((j + 1 : Nat) : Int) - 1) = (j : Int) by omega]
    repeat' first
      | ((with_reducible refine Nx.is_wp ?_); first | refine Nx.wo ?_ | refine Nx.zp (fun hc => ?_) (fun hc => ?_))
      | (refine Nx.zo ?_; first | refine Nx.opr rfl rfl ?_ | refine Nx.indexAddr_nat rfl rfl rfl rfl rfl (by omega) (hl.isSome (by omega)) ?_ | refine Nx.indexAddr_nat rfl rfl rfl rfl rfl (by omega) rfl ?_ | refine Nx.load rfl rfl rfl (hl.rd (by omega)) ?_ | refine Nx.so ?_ | refine Nx.sb (fun bx => ?_) | refine Nx.sa (fun A2 c2 => ?_))
      | ((with_reducible refine Nx.is_at ?_); first | refine Nx.a ?_ | refine Nx.zd ?_ | refine Nx.zs (fun hc => ?_) (fun hc => ?_))
      | ((with_reducible refine Nx.is_mix ?_); first | refine Nx.m ?_ | refine Nx.zm ?_ | refine Nx.zt (fun hc => ?_) (fun hc => ?_))
      | refine Nx.zx ?_ | fail
    exact Nx.again (j, xs.set j (m % l.getD j default), m / l.getD j default) (hok.step hs) (by dsimp only; omega) ⟨rfl, rfl, rfl, rfl, trivial⟩ (by (exact Ent.auto))
def grpK (l : List Int) : Nat → Int
  | 0 => 0
  | k + 1 => max (grpK l k) (l.getD k default + 1)
theorem grpK_eq (l : List Int) : ∀ k, grpK l (k + 1) = max 0 (1 + maxL l k)
  | 0 => by simp only [grpK, maxL]; omega
  | k + 1 => by
    have := grpK_eq l k
    simp only [grpK, maxL] at this ⊢
    omega
theorem grpK_bd (l : List Int) (h : ∀ k, k < l.length → -1 ≤ l.getD k default ∧ l.getD k default ≤ 1000) : ∀ k, k ≤ l.length → 0 ≤ grpK l k ∧ grpK l k ≤ 1001
  | 0, _ => by simp [grpK]
  | k + 1, hk => by
    have ih := grpK_bd l h k (by omega)
    have := h k (by omega)
    simp only [grpK]; omega
set_option maxHeartbeats 8000000 in
set_option maxRecDepth 10000 in
theorem Groups_spec (A : Option Addr) (c : Nat) (l : List Int) (I : PH) (hl : Ints I A c l) (hg : Grouped l) (h8 : l.length ≤ 1000) :
    FnSpec Try.prog 40 [.slice A l.length c] I [] (fun v R' => v = .int .i64 (1 + maxL l (l.length - 1)) ∧ R' = []) := by
  have hlen := hl.len
  have hm := hg.max
  have hp := hg.pos
  have he : ∀ k, k < l.length → -1 ≤ l.getD k default ∧ l.getD k default ≤ 1000 := fun k hk => by have := hg.each k hk; omega
  have hlast : grpK l l.length = 1 + maxL l (l.length - 1) := by
    have := grpK_eq l (l.length - 1)
    rw [show l.length - 1 + 1 = l.length by omega] at this
    omega
  refine FnSpec.enterP Try.func40 rfl Try.ntmps40 rfl fun w F => ?_
  repeat' first
    | ((with_reducible refine Nx.is_wp ?_); first | refine Nx.wo ?_ | refine Nx.zp (fun hc => ?_) (fun hc => ?_))
    | (refine Nx.zo ?_; first | refine Nx.opr rfl rfl ?_ | refine Nx.so ?_ | refine Nx.sb (fun bx => ?_) | refine Nx.sa (fun A2 c2 => ?_))
    | ((with_reducible refine Nx.is_at ?_); first | refine Nx.a ?_ | refine Nx.zd ?_ | refine Nx.zs (fun hc => ?_) (fun hc => ?_))
    | ((with_reducible refine Nx.is_mix ?_); first | refine Nx.m ?_ | refine Nx.zm ?_ | refine Nx.zt (fun hc => ?_) (fun hc => ?_))
    | refine Nx.zx ?_ | fail
  refine Nx.p_loop (σ := Nat) (fun k => [(6, .slice A l.length c), (7, .int .i64 l.length), (8, .int .i64 (k : Int)), (3, .int .i64 (grpK l k))])
    (fun _ => [F]) (fun k => k ≤ l.length) (fun k => l.length - k) 0 rfl (Nat.zero_le _) ⟨rfl, rfl, rfl, rfl, trivial⟩ (by (exact Ent.auto)) ?_
  intro k hk
  have hb := grpK_bd l he k hk
  have hek := he k
  repeat' first
    | ((with_reducible refine Nx.is_wp ?_); first | refine Nx.wo ?_ | refine Nx.zp (fun hc => ?_) (fun hc => ?_))
    | (refine Nx.zo ?_; first | refine Nx.opr rfl rfl ?_ | refine Nx.indexAddr_nat rfl rfl rfl rfl rfl (by omega) (hl.isSome (by omega)) ?_ | refine Nx.load rfl rfl rfl (hl.rd (by omega)) ?_ | refine Nx.so ?_ | refine Nx.sb (fun bx => ?_) | refine Nx.sa (fun A2 c2 => ?_))
    | ((with_reducible refine Nx.is_at ?_); first | refine Nx.a ?_ | refine Nx.zd ?_ | refine Nx.zs (fun hc => ?_) (fun hc => ?_))
    | ((with_reducible refine Nx.is_mix ?_); first | refine Nx.m ?_ | refine Nx.zm ?_ | refine Nx.zt (fun hc => ?_) (fun hc => ?_))
    | refine Nx.zx ?_ | fail
  · exact Nx.again (k + 1) (by omega) (by omega) ⟨rfl, rfl, rfl, rfl, trivial⟩ (Ent.refl _)
  · obtain rfl : k = l.length := by omega
    exact Nx.ret_fn rfl [] ⟨by rw [hlast], rfl⟩ (Ent.refl _)
theorem take_lt_no {gs : List Int} (h : ∀ k, k < gs.length → 0 ≤ gs.getD k default) : gs.contains (-1) = false := by
  rw [List.contains_eq_mem, decide_eq_false_iff_not]
  intro hm
  obtain ⟨k, hk, he⟩ := mem_getD hm
  have := h k hk
  omega
theorem has_neg {gs : List Int} {k : Nat} (hk : k < gs.length) (h : gs.getD k default = -1) : gs.contains (-1) = true := by
  rw [List.contains_eq_mem, ← h]
  exact decide_eq_true (getD_mem hk)
/-- Sums of numbers of places, one place more at a time. -/
theorem numK_pre {s gs : List Int} {i : Nat} (hg : ∀ k, k < i → 0 ≤ gs.getD k default ∧ gs.getD k default < s.getD k default) (hi : i ≤ s.length) : 0 ≤ numK s gs i ∧ numK s gs i < prod (s.take i) := by
  induction i with
  | zero => simp [numK, prod]
  | succ i ih =>
    simp only [numK]
    exact mul_add_lt (ih (fun k hk => hg k (by omega)) (by omega)) (hg i (by omega)) (prod_succ s i (by omega))
set_option maxHeartbeats 8000000 in
set_option maxRecDepth 10000 in
theorem Of_spec (A B : Option Addr) (c cv : Nat) (l : List Int) (v : List Row) (n : Nat) (I : PH) (hl : Ints I A c l) (hs : Sizes l) (hv : RowsOf I B cv v) (hw : Viewed l v) (hn : (n : Int) < prod l) :
    FnSpec Try.prog 26 [.agg #[.slice A l.length c], .agg #[.slice B v.length cv], .int .i64 n] I [] (fun u R' => u = .int .i64 (pubOf l v n) ∧ R' = []) := by
  have hd := hs.dims
  have hvl := hw.len
  have hsl := szs_len v
  have hss := hw.sizes hs
  refine FnSpec.enterP Try.func26 rfl Try.ntmps26 rfl fun w F => ?_
  repeat' first
    | ((with_reducible refine Nx.is_wp ?_); first | refine Nx.wo ?_ | refine Nx.zp (fun hc => ?_) (fun hc => ?_))
    | (refine Nx.zo ?_; first | refine Nx.opr rfl rfl ?_ | refine Nx.so ?_ | refine Nx.sb (fun bx => ?_) | refine Nx.sa (fun A2 c2 => ?_))
    | ((with_reducible refine Nx.is_at ?_); first | refine Nx.a ?_ | refine Nx.zd ?_ | refine Nx.zs (fun hc => ?_) (fun hc => ?_))
    | ((with_reducible refine Nx.is_mix ?_); first | refine Nx.m ?_ | refine Nx.zm ?_ | refine Nx.zt (fun hc => ?_) (fun hc => ?_))
    | refine Nx.zx ?_ | fail
  refine Nx.at_op rfl rfl ?_
  refine Nx.call rfl rfl rfl (by kernel_rfl) rfl (RAt_spec A c l n I hl hs (by omega)) (by (exact Ent.auto)) ?_
  rintro u R' ⟨bp, xs, rfl, hr, hnum, rfl⟩
  refine Nx.freezeAt 0 rfl fun I' m hle hm hvec => ?_
  have hxs : Ints I' (some ⟨bp, 0, none⟩) xs.length xs := Vec.sliceOf hm hvec
  have hv' := hv.mono hle
  have hpl := pl_of hs hr hnum
  have hxl := hr.len
  have hgl : (gsOf v xs).length = v.length := gsOf_len v xs
  have hpub : pubOf l v n = if (gsOf v xs).contains (-1) then -1 else numK (szs v) (gsOf v xs) v.length := by rw [hpl]; rfl
  repeat' first
    | ((with_reducible refine Nx.is_wp ?_); first | refine Nx.wo ?_ | refine Nx.zp (fun hc => ?_) (fun hc => ?_))
    | (refine Nx.zo ?_; first | refine Nx.opr rfl rfl ?_ | refine Nx.so ?_ | refine Nx.sb (fun bx => ?_) | refine Nx.sa (fun A2 c2 => ?_))
    | ((with_reducible refine Nx.is_at ?_); first | refine Nx.a ?_ | refine Nx.zd ?_ | refine Nx.zs (fun hc => ?_) (fun hc => ?_))
    | ((with_reducible refine Nx.is_mix ?_); first | refine Nx.m ?_ | refine Nx.zm ?_ | refine Nx.zt (fun hc => ?_) (fun hc => ?_))
    | refine Nx.zx ?_ | fail
  rename_i b3
  refine Nx.p_loop (σ := Nat) (fun i => [(4, .pointer (some ⟨bx, 0, none⟩)), (9, .int .i64 (numK (szs v) (gsOf v xs) i)), (19, .slice (some ⟨bp, 0, none⟩) xs.length xs.length), (20, .int .i64 xs.length), (21, .int .i64 (i : Int))])
    (fun _ => [Blk bx 35 [.slice B v.length cv], F]) (fun i => i ≤ xs.length ∧ ∀ k, k < i → 0 ≤ (gsOf v xs).getD k default) (fun i => xs.length - i) 0 rfl ⟨Nat.zero_le _, fun k hk => absurd hk (Nat.not_lt_zero _)⟩ ⟨rfl, rfl, rfl, rfl, rfl, trivial⟩ (by (exact Ent.auto)) ?_
  rintro i ⟨hi, hpos⟩
  have hxi := hr.each i
  have hwi := hw.each i
  have hgi : i < v.length → (gsOf v xs).getD i default = (v.getD i default).2.2.getD (xs.getD i default).toNat default := gsOf_at v xs i
  have hpre := numK_pre (i := i) (fun k hk => ⟨hpos k hk, (gsOf_bd hw hr (by omega)).2⟩) (by omega)
  have hbd := hss.bound (k := i) (by omega)
  by_cases hlt : i < xs.length
  · have hgi := hgi (by omega)
    have hgb := gsOf_bd hw hr (k := i) (by omega)
    have hzi := szs_at v i (by omega)
    have hz8 := hw.szs (k := i) (by omega)
    have hli := hs.at (k := i) (by omega)
    have hmul : 0 ≤ numK (szs v) (gsOf v xs) i * (szs v).getD i default ∧ numK (szs v) (gsOf v xs) i * (szs v).getD i default ≤ 4096 * 8 := ⟨Int.mul_nonneg hpre.1 (by omega), Int.mul_le_mul (by omega) (by omega) (by omega) (by omega)⟩
    rw [hzi] at hmul
    repeat' first
      | ((with_reducible refine Nx.is_wp ?_); first | refine Nx.wo ?_ | refine Nx.zp (fun hc => ?_) (fun hc => ?_))
      | (refine Nx.zo ?_; first | refine Nx.opr rfl rfl ?_ | refine Nx.indexAddr_nat rfl rfl rfl rfl rfl (by omega) (hv'.outer.isSome (by omega)) ?_ | refine Nx.indexAddr_nat rfl rfl rfl rfl rfl (by omega) rfl ?_ | refine Nx.load rfl rfl rfl (hxs.rd (by omega)) ?_ | refine Nx.load rfl rfl rfl (hv'.outer.rd (by omega)) ?_ | refine Nx.indexAddr rfl rfl rfl rfl rfl (by omega) (by omega) ((hv'.at (by omega)).isSome (by omega)) ?_ | refine Nx.load rfl rfl rfl ((hv'.at (by omega)).rd (by omega)) ?_ | refine Nx.callv rfl rfl rfl (by kernel_rfl) rfl (Groups_spec _ _ _ _ (hv'.at (by omega)) (hw.grouped (by omega)) (by omega)) ?_ | refine Nx.so ?_ | refine Nx.sb (fun bx => ?_) | refine Nx.sa (fun A2 c2 => ?_))
      | ((with_reducible refine Nx.is_at ?_); first | refine Nx.a ?_ | refine Nx.zd ?_ | refine Nx.zs (fun hc => ?_) (fun hc => ?_))
      | ((with_reducible refine Nx.is_mix ?_); first | refine Nx.m ?_ | refine Nx.zm ?_ | refine Nx.zt (fun hc => ?_) (fun hc => ?_))
      | refine Nx.zx ?_ | fail
    · rw [← hgi] at hc
      refine Nx.imm_le hle (Nx.ret_fn rfl [] ⟨?_, rfl⟩ (by (exact Ent.auto)))
      rw [hpub, if_pos (has_neg (k := i) (by omega) (by omega))]
    · rw [← hgi] at hc
      refine Nx.again (i + 1) ⟨by omega, fun k hk => ?_⟩ (by omega) ⟨rfl, ?_, rfl, rfl, rfl, trivial⟩ (by (exact Ent.auto))
      · by_cases hki : k = i
        · subst hki; omega
        · exact hpos k (by omega)
      · simp only [numK]
        rw [hzi, hgi]
        rfl
  · obtain rfl : i = xs.length := by omega
    repeat' first
      | ((with_reducible refine Nx.is_wp ?_); first | refine Nx.wo ?_ | refine Nx.zp (fun hc => ?_) (fun hc => ?_))
      | (refine Nx.zo ?_; first | refine Nx.opr rfl rfl ?_ | refine Nx.so ?_ | refine Nx.sb (fun bx => ?_) | refine Nx.sa (fun A2 c2 => ?_))
      | ((with_reducible refine Nx.is_at ?_); first | refine Nx.a ?_ | refine Nx.zd ?_ | refine Nx.zs (fun hc => ?_) (fun hc => ?_))
      | ((with_reducible refine Nx.is_mix ?_); first | refine Nx.m ?_ | refine Nx.zm ?_ | refine Nx.zt (fun hc => ?_) (fun hc => ?_))
      | refine Nx.zx ?_ | fail
    refine Nx.imm_le hle (Nx.ret_fn rfl [] ⟨?_, rfl⟩ (by (exact Ent.auto)))
    rw [hpub, if_neg (by rw [take_lt_no (fun k hk => hpos k (by omega))]; decide), show v.length = xs.length by omega]
end Go.Proofs.Ytcmdemfhbekabaa
/- Contracts of functions of the given program, and lemmas about plain lists and numbers: what the laws of this seat lean on. -/
namespace Go.Proofs.Ytcmdemfhbekabaa
open Go.Eng
attribute [local irreducible] opK wpList Code.wp Exit.then Exit.inBlock fnPost bodyPost Nx Calls Oper.wp Rd Rds Wr Ent Stars Blk Again Vec FnSpec wpMix QRun Stop Upto wpAt
/-! The reference's views: right ones -/
set_option maxRecDepth 10000 in
set_option maxHeartbeats 4000000 in
theorem RView_spec (A B : Option Addr) (c cv : Nat) (l : List Int) (v : List Row) (I : PH) (hl : Ints I A c l) (hs : Sizes l) (hv : RowsOf I B cv v) (hw : Viewed l v) :
    FnSpec Try.prog 24 [.agg #[.slice A l.length c], .agg #[.slice B v.length cv]] I [] (fun u R' => u = .int .i64 0 ∧ R' = []) := by
  have hlen := hl.len
  have hvl := hw.len
  have hvlen := hv.outer.len
  refine FnSpec.enterP Try.func24 rfl Try.ntmps24 rfl fun w F => ?_
  repeat' first
    | ((with_reducible refine Nx.is_wp ?_); first | refine Nx.wo ?_ | refine Nx.zp (fun hc => ?_) (fun hc => ?_))
    | (refine Nx.zo ?_; first | refine Nx.opr rfl rfl ?_ | refine Nx.callv rfl rfl rfl (by kernel_rfl) rfl (RCheck_spec _ _ _ _ hl hs) ?_ | refine Nx.so ?_ | refine Nx.sb (fun bx => ?_) | refine Nx.sa (fun A2 c2 => ?_))
    | ((with_reducible refine Nx.is_at ?_); first | refine Nx.a ?_ | refine Nx.zd ?_ | refine Nx.zs (fun hc => ?_) (fun hc => ?_))
    | ((with_reducible refine Nx.is_mix ?_); first | refine Nx.m ?_ | refine Nx.zm ?_ | refine Nx.zt (fun hc => ?_) (fun hc => ?_))
    | refine Nx.zx ?_ | fail
  rename_i b2
  revert bx; intro b3
  refine Nx.p_loop (σ := Nat) (fun i => [(2, .pointer (some ⟨b2, 0, none⟩)), (24, .slice B v.length cv), (25, .int .i64 v.length), (26, .int .i64 (i : Int))])
    (fun _ => [Blk b3 35 [.slice B v.length cv], Blk b2 27 [.slice A l.length c], F]) (fun i => i ≤ v.length) (fun i => v.length - i) 0 rfl (Nat.zero_le _) ⟨rfl, rfl, rfl, rfl, trivial⟩ (by (exact Ent.auto)) ?_
  intro i hi
  have hi : i ≤ v.length := hi
  by_cases hiv : i < v.length
  case neg =>
    repeat' first
      | ((with_reducible refine Nx.is_wp ?_); first | refine Nx.wo ?_ | refine Nx.zp (fun hc => ?_) (fun hc => ?_))
      | (refine Nx.zo ?_; first | refine Nx.opr rfl rfl ?_ | refine Nx.so ?_ | refine Nx.sb (fun bx => ?_) | refine Nx.sa (fun A2 c2 => ?_))
      | ((with_reducible refine Nx.is_at ?_); first | refine Nx.a ?_ | refine Nx.zd ?_ | refine Nx.zs (fun hc => ?_) (fun hc => ?_))
      | ((with_reducible refine Nx.is_mix ?_); first | refine Nx.m ?_ | refine Nx.zm ?_ | refine Nx.zt (fun hc => ?_) (fun hc => ?_))
      | refine Nx.zx ?_ | fail
    exact Nx.ret_fn rfl [] ⟨rfl, rfl⟩ (by (exact Ent.auto))
  have hrow := hv.at hiv
  have hea := hw.each i (by omega)
  have hrd : ∀ (W : World) (R : List Res), Rd W I R ((ad B).add (i * 1)) (rowV (v.getD i default)) := fun W R => hv.outer.rd hiv
  have hsz : ∀ (W : World) (R : List Res), Rd W I R ((ad A).add (i * 1)) (.int .i64 (l.getD i default)) := fun W R => hl.rd (by omega)
  generalize v.getD i default = rw' at hrow hea hrd
  obtain ⟨G, cg, g⟩ := rw'
  dsimp only at hrow hea
  replace hrd : ∀ (W : World) (R : List Res), Rd W I R ((ad B).add (i * 1)) (.slice G g.length cg) := hrd
  obtain ⟨hgl, hnb⟩ := hea
  rw [← hgl] at hsz
  have hglen := hrow.len
  obtain ⟨m, hm, hm0⟩ : ∃ m, numb g 0 = some m ∧ 0 < m := by
    unfold numbB at hnb
    split at hnb
    · rename_i m hm; exact ⟨m, hm, of_decide_eq_true hnb⟩
    · cases hnb
  repeat' first
    | ((with_reducible refine Nx.is_wp ?_); first | refine Nx.wo ?_ | refine Nx.zp (fun hc => ?_) (fun hc => ?_))
    | (refine Nx.zo ?_; first | refine Nx.opr rfl rfl ?_ | refine Nx.indexAddr_nat (A := B) (i := i) (sz := 1) rfl rfl rfl rfl rfl (by omega) (hv.outer.isSome (by omega)) ?_ | refine Nx.load rfl rfl rfl (hrd _ _) ?_ | refine Nx.indexAddr_nat (A := A) (i := i) (sz := 1) rfl rfl rfl rfl rfl (by omega) (hl.isSome (by omega)) ?_ | refine Nx.load rfl rfl rfl (hsz _ _) ?_ | refine Nx.so ?_ | refine Nx.sb (fun bx => ?_) | refine Nx.sa (fun A2 c2 => ?_))
    | ((with_reducible refine Nx.is_at ?_); first | refine Nx.a ?_ | refine Nx.zd ?_ | refine Nx.zs (fun hc => ?_) (fun hc => ?_))
    | ((with_reducible refine Nx.is_mix ?_); first | refine Nx.m ?_ | refine Nx.zm ?_ | refine Nx.zt (fun hc => ?_) (fun hc => ?_))
    | refine Nx.zx ?_ | fail
  refine Nx.p_loop (σ := Nat × Int) (fun s => [(2, .pointer (some ⟨b2, 0, none⟩)), (24, .slice B v.length cv), (25, .int .i64 v.length), (26, .int .i64 (i : Int)), (39, .slice G g.length cg), (40, .int .i64 g.length), (41, .int .i64 (s.1 : Int)), (8, .int .i64 s.2)])
    (fun _ => [Blk b3 35 [.slice B v.length cv], Blk b2 27 [.slice A l.length c], F]) (fun s => s.1 ≤ g.length ∧ 0 ≤ s.2 ∧ s.2 ≤ s.1 ∧ numb g 0 = numb (g.drop s.1) s.2) (fun s => g.length - s.1) (0, 0) rfl ⟨Nat.zero_le _, by decide, by simp, rfl⟩ ⟨rfl, rfl, rfl, rfl, rfl, rfl, rfl, rfl, trivial⟩ (by (exact Ent.auto)) ?_
  rintro ⟨k, nx⟩ ⟨hk, h0, h1, he⟩
  dsimp only at hk h0 h1 he ⊢
  by_cases hkg : k < g.length
  case neg =>
    rw [List.drop_eq_nil_of_le (by omega)] at he
    have hnm : nx = m := by rw [hm] at he; exact (Option.some.inj he).symm
    repeat' first
      | ((with_reducible refine Nx.is_wp ?_); first | refine Nx.wo ?_ | refine Nx.zp (fun hc => ?_) (fun hc => ?_))
      | (refine Nx.zo ?_; first | refine Nx.opr rfl rfl ?_ | refine Nx.so ?_ | refine Nx.sb (fun bx => ?_) | refine Nx.sa (fun A2 c2 => ?_))
      | ((with_reducible refine Nx.is_at ?_); first | refine Nx.a ?_ | refine Nx.zd ?_ | refine Nx.zs (fun hc => ?_) (fun hc => ?_))
      | ((with_reducible refine Nx.is_mix ?_); first | refine Nx.m ?_ | refine Nx.zm ?_ | refine Nx.zt (fun hc => ?_) (fun hc => ?_))
      | refine Nx.zx ?_ | fail
    exact Nx.again (i + 1) hiv (by omega) ⟨rfl, rfl, rfl, rfl, trivial⟩ (by (exact Ent.auto))
  have hd : numb g 0 = if g.getD k default < -1 ∨ nx < g.getD k default then none else numb (g.drop (k + 1)) (if g.getD k default = nx then nx + 1 else nx) := by rw [he, drop_at hkg]; rfl
  have hok : ¬ (g.getD k default < -1 ∨ nx < g.getD k default) := fun h => by rw [if_pos h, hm] at hd; cases hd
  rw [if_neg hok] at hd
  have hgr : ∀ (W : World) (R : List Res), Rd W I R ((ad G).add (k * 1)) (.int .i64 (g.getD k default)) := fun W R => hrow.rd hkg
  generalize g.getD k default = y at hd hok hgr
  by_cases hyn : y = nx
  · rw [if_pos hyn] at hd
    repeat' first
      | ((with_reducible refine Nx.is_wp ?_); first | refine Nx.wo ?_ | refine Nx.zp (fun hc => ?_) (fun hc => ?_))
      | (refine Nx.zo ?_; first | refine Nx.opr rfl rfl ?_ | refine Nx.indexAddr_nat (A := G) (i := k) (sz := 1) rfl rfl rfl rfl rfl (by omega) (hrow.isSome (by omega)) ?_ | refine Nx.load rfl rfl rfl (hgr _ _) ?_ | refine Nx.so ?_ | refine Nx.sb (fun bx => ?_) | refine Nx.sa (fun A2 c2 => ?_))
      | ((with_reducible refine Nx.is_at ?_); first | refine Nx.a ?_ | refine Nx.zd ?_ | refine Nx.zs (fun hc => ?_) (fun hc => ?_))
      | ((with_reducible refine Nx.is_mix ?_); first | refine Nx.m ?_ | refine Nx.zm ?_ | refine Nx.zt (fun hc => ?_) (fun hc => ?_))
      | refine Nx.zx ?_ | fail
    exact Nx.again (k + 1, nx + 1) ⟨hkg, by dsimp only; omega, by dsimp only; omega, hd⟩ (by dsimp only; omega) ⟨rfl, rfl, rfl, rfl, rfl, rfl, rfl, rfl, trivial⟩ (by (exact Ent.auto))
  · rw [if_neg hyn] at hd
    repeat' first
      | ((with_reducible refine Nx.is_wp ?_); first | refine Nx.wo ?_ | refine Nx.zp (fun hc => ?_) (fun hc => ?_))
      | (refine Nx.zo ?_; first | refine Nx.opr rfl rfl ?_ | refine Nx.indexAddr_nat (A := G) (i := k) (sz := 1) rfl rfl rfl rfl rfl (by omega) (hrow.isSome (by omega)) ?_ | refine Nx.load rfl rfl rfl (hgr _ _) ?_ | refine Nx.so ?_ | refine Nx.sb (fun bx => ?_) | refine Nx.sa (fun A2 c2 => ?_))
      | ((with_reducible refine Nx.is_at ?_); first | refine Nx.a ?_ | refine Nx.zd ?_ | refine Nx.zs (fun hc => ?_) (fun hc => ?_))
      | ((with_reducible refine Nx.is_mix ?_); first | refine Nx.m ?_ | refine Nx.zm ?_ | refine Nx.zt (fun hc => ?_) (fun hc => ?_))
      | refine Nx.zx ?_ | fail
    exact Nx.again (k + 1, nx) ⟨hkg, by dsimp only; omega, by dsimp only; omega, hd⟩ (by dsimp only; omega) ⟨rfl, rfl, rfl, rfl, rfl, rfl, rfl, rfl, trivial⟩ (by (exact Ent.auto))
set_option maxRecDepth 10000 in
set_option maxHeartbeats 4000000 in
theorem RPublished_spec (A B : Option Addr) (c cv : Nat) (l : List Int) (v : List Row) (I : PH) (hl : Ints I A c l) (hs : Sizes l) (hv : RowsOf I B cv v) (hw : Viewed l v) :
    FnSpec Try.prog 25 [.agg #[.slice A l.length c], .agg #[.slice B v.length cv]] I [] (fun u R' => u = .int .i64 (prod (szs v)) ∧ R' = []) := by
  have hlen := hl.len
  have hvl := hw.len
  have hvlen := hv.outer.len
  have hszl := szs_len v
  have hss := hw.sizes hs
  refine FnSpec.enterP Try.func25 rfl Try.ntmps25 rfl fun w F => ?_
  repeat' first
    | ((with_reducible refine Nx.is_wp ?_); first | refine Nx.wo ?_ | refine Nx.zp (fun hc => ?_) (fun hc => ?_))
    | (refine Nx.zo ?_; first | refine Nx.opr rfl rfl ?_ | refine Nx.callv rfl rfl rfl (by kernel_rfl) rfl (RView_spec _ _ _ _ _ _ _ hl hs hv hw) ?_ | refine Nx.so ?_ | refine Nx.sb (fun bx => ?_) | refine Nx.sa (fun A2 c2 => ?_))
    | ((with_reducible refine Nx.is_at ?_); first | refine Nx.a ?_ | refine Nx.zd ?_ | refine Nx.zs (fun hc => ?_) (fun hc => ?_))
    | ((with_reducible refine Nx.is_mix ?_); first | refine Nx.m ?_ | refine Nx.zm ?_ | refine Nx.zt (fun hc => ?_) (fun hc => ?_))
    | refine Nx.zx ?_ | fail
  rename_i b2
  revert bx; intro b3
  refine Nx.p_loop (σ := Nat) (fun i => [(13, .slice B v.length cv), (14, .int .i64 v.length), (15, .int .i64 (i : Int)), (5, .int .i64 (prod ((szs v).take i)))])
    (fun _ => [F]) (fun i => i ≤ v.length) (fun i => v.length - i) 0 rfl (Nat.zero_le _) ⟨rfl, rfl, rfl, rfl, trivial⟩ (by (exact Ent.auto)) ?_
  intro i hi
  have hi : i ≤ v.length := hi
  have hb := hss.bound (k := i) (by omega)
  by_cases hiv : i < v.length
  case neg =>
    have hie : i = (szs v).length := by omega
    rw [hie, List.take_length] at hb ⊢
    repeat' first
      | ((with_reducible refine Nx.is_wp ?_); first | refine Nx.wo ?_ | refine Nx.zp (fun hc => ?_) (fun hc => ?_))
      | (refine Nx.zo ?_; first | refine Nx.opr rfl rfl ?_ | refine Nx.so ?_ | refine Nx.sb (fun bx => ?_) | refine Nx.sa (fun A2 c2 => ?_))
      | ((with_reducible refine Nx.is_at ?_); first | refine Nx.a ?_ | refine Nx.zd ?_ | refine Nx.zs (fun hc => ?_) (fun hc => ?_))
      | ((with_reducible refine Nx.is_mix ?_); first | refine Nx.m ?_ | refine Nx.zm ?_ | refine Nx.zt (fun hc => ?_) (fun hc => ?_))
      | refine Nx.zx ?_ | fail
    exact Nx.ret_fn rfl [] ⟨rfl, rfl⟩ (by (exact Ent.auto))
  have hrow := hv.at hiv
  have hgrp := hw.grouped (k := i) (by omega)
  have hea := (hw.each i (by omega)).1
  have hsat := szs_at v i hiv
  have hps := prod_succ (szs v) i (by omega)
  have hb2 := hss.bound (k := i + 1) (by omega)
  have hlat := hs.at (k := i) (by omega)
  rw [hsat] at hps
  have hrd : ∀ (W : World) (R : List Res), Rd W I R ((ad B).add (i * 1)) (rowV (v.getD i default)) := fun W R => hv.outer.rd hiv
  generalize v.getD i default = rw' at hrow hgrp hea hrd hps
  obtain ⟨G, cg, g⟩ := rw'
  dsimp only at hrow hgrp hea hps
  replace hrd : ∀ (W : World) (R : List Res), Rd W I R ((ad B).add (i * 1)) (.slice G g.length cg) := hrd
  have hG := Groups_spec G cg g I hrow hgrp (by omega)
  generalize 1 + maxL g (g.length - 1) = y at hG hps
  rw [hps] at hb2
  repeat' first
    | ((with_reducible refine Nx.is_wp ?_); first | refine Nx.wo ?_ | refine Nx.zp (fun hc => ?_) (fun hc => ?_))
    | (refine Nx.zo ?_; first | refine Nx.opr rfl rfl ?_ | refine Nx.indexAddr_nat (A := B) (i := i) (sz := 1) rfl rfl rfl rfl rfl (by omega) (hv.outer.isSome (by omega)) ?_ | refine Nx.load rfl rfl rfl (hrd _ _) ?_ | refine Nx.callv rfl rfl rfl (by kernel_rfl) rfl hG ?_ | refine Nx.so ?_ | refine Nx.sb (fun bx => ?_) | refine Nx.sa (fun A2 c2 => ?_))
    | ((with_reducible refine Nx.is_at ?_); first | refine Nx.a ?_ | refine Nx.zd ?_ | refine Nx.zs (fun hc => ?_) (fun hc => ?_))
    | ((with_reducible refine Nx.is_mix ?_); first | refine Nx.m ?_ | refine Nx.zm ?_ | refine Nx.zt (fun hc => ?_) (fun hc => ?_))
    | refine Nx.zx ?_ | fail
  exact Nx.again (i + 1) hiv (by omega) ⟨rfl, rfl, rfl, by rw [hps]; rfl, trivial⟩ (by (exact Ent.auto))
set_option maxRecDepth 10000 in
set_option maxHeartbeats 4000000 in
theorem RPublish_spec (A B T : Option Addr) (c cv ct : Nat) (l t : List Int) (v : List Row) (I : PH) (hl : Ints I A c l) (hs : Sizes l) (hv : RowsOf I B cv v) (hw : Viewed l v) (ht : Ints I T ct t) (hT : Table l t) :
    FnSpec Try.prog 11 [.agg #[.slice A l.length c], .agg #[.slice B v.length cv], .slice T t.length ct] I [] (fun u R' => ∃ A', u = .tuple #[.slice A' (prod (szs v)).toNat (prod (szs v)).toNat, .int .i64 0] ∧
      R' = [Vec 3 1 A' (prod (szs v)).toNat (prod (szs v)).toNat ((sums (pubOf l v) t (prod (szs v)).toNat t.length).map (Value.int .i64))]) := by
  have hpr := hs.bound (k := l.length) (Nat.le_refl _)
  rw [List.take_length] at hpr
  have hzb := (hw.sizes hs).bound (k := (szs v).length) (Nat.le_refl _)
  rw [List.take_length] at hzb
  have htl := hT.len
  have htn := ht.len
  have hP := RPublished_spec A B c cv l v I hl hs hv hw
  rw [show prod (szs v) = (((prod (szs v)).toNat : Nat) : Int) by omega] at hP
  refine FnSpec.enterP Try.func11 rfl Try.ntmps11 rfl fun w F => ?_
  repeat' first
    | ((with_reducible refine Nx.is_wp ?_); first | refine Nx.wo ?_ | refine Nx.zp (fun hc => ?_) (fun hc => ?_))
    | (refine Nx.zo ?_; first | refine Nx.opr rfl rfl ?_ | refine Nx.callv rfl rfl rfl (by kernel_rfl) rfl (RView_spec _ _ _ _ _ _ _ hl hs hv hw) ?_ | refine Nx.callv rfl rfl rfl (by kernel_rfl) rfl (RCount_spec _ _ _ _ hl hs) ?_ | refine Nx.so ?_ | refine Nx.sb (fun bx => ?_) | refine Nx.sa (fun A2 c2 => ?_))
    | ((with_reducible refine Nx.is_at ?_); first | refine Nx.a ?_ | refine Nx.zd ?_ | refine Nx.zs (fun hc => ?_) (fun hc => ?_))
    | ((with_reducible refine Nx.is_mix ?_); first | refine Nx.m ?_ | refine Nx.zm ?_ | refine Nx.zt (fun hc => ?_) (fun hc => ?_))
    | refine Nx.zx ?_ | fail
  rename_i b2
  revert bx; intro b3
  refine Nx.p_loop (σ := Nat) (fun s => [(2, .slice T t.length ct), (3, .pointer (some ⟨b2, 0, none⟩)), (4, .pointer (some ⟨b3, 0, none⟩)), (25, .slice T t.length ct), (26, .int .i64 t.length), (27, .int .i64 (s : Int))])
    (fun _ => [Blk b3 35 [.slice B v.length cv], Blk b2 27 [.slice A l.length c], F]) (fun s => s ≤ t.length) (fun s => t.length - s) 0 rfl (Nat.zero_le _) ⟨rfl, rfl, rfl, rfl, rfl, rfl, trivial⟩ (by (exact Ent.auto)) ?_
  intro n hn
  have hn : n ≤ t.length := hn
  by_cases hlt : n < t.length
  · have htn := hT.each n hlt
    have htr : ∀ (W : World) (R : List Res), Rd W I R ((ad T).add (n * 1)) (.int .i64 (t.getD n default)) := fun W R => ht.rd hlt
    generalize t.getD n default = y at htn htr
    repeat' first
      | ((with_reducible refine Nx.is_wp ?_); first | refine Nx.wo ?_ | refine Nx.zp (fun hc => ?_) (fun hc => ?_))
      | (refine Nx.zo ?_; first | refine Nx.opr rfl rfl ?_ | refine Nx.indexAddr_nat (A := T) (i := n) (sz := 1) rfl rfl rfl rfl rfl (by omega) (ht.isSome (by omega)) ?_ | refine Nx.load rfl rfl rfl (htr _ _) ?_ | refine Nx.so ?_ | refine Nx.sb (fun bx => ?_) | refine Nx.sa (fun A2 c2 => ?_))
      | ((with_reducible refine Nx.is_at ?_); first | refine Nx.a ?_ | refine Nx.zd ?_ | refine Nx.zs (fun hc => ?_) (fun hc => ?_))
      | ((with_reducible refine Nx.is_mix ?_); first | refine Nx.m ?_ | refine Nx.zm ?_ | refine Nx.zt (fun hc => ?_) (fun hc => ?_))
      | refine Nx.zx ?_ | fail
    exact Nx.again (n + 1) hlt (by omega) ⟨rfl, rfl, rfl, rfl, rfl, rfl, trivial⟩ (by (exact Ent.auto))
  obtain rfl : n = t.length := by omega
  generalize hPn : (prod (szs v)).toNat = P at hzb hP ⊢
  have hP48 : P ≤ 4096 := by omega
  repeat' first
    | ((with_reducible refine Nx.is_wp ?_); first | refine Nx.wo ?_ | refine Nx.zp (fun hc => ?_) (fun hc => ?_))
    | (refine Nx.zo ?_; first | refine Nx.opr rfl rfl ?_ | refine Nx.callv rfl rfl rfl (by kernel_rfl) rfl hP ?_ | refine Nx.makeInts rfl rfl rfl rfl rfl rfl rfl rfl (by omega) (fun bx => ?_) | refine Nx.so ?_ | refine Nx.sb (fun bx => ?_) | refine Nx.sa (fun A2 c2 => ?_))
    | ((with_reducible refine Nx.is_at ?_); first | refine Nx.a ?_ | refine Nx.zd ?_ | refine Nx.zs (fun hc => ?_) (fun hc => ?_))
    | ((with_reducible refine Nx.is_mix ?_); first | refine Nx.m ?_ | refine Nx.zm ?_ | refine Nx.zt (fun hc => ?_) (fun hc => ?_))
    | refine Nx.zx ?_ | fail
  revert bx; intro b11
  refine Nx.p_loop (σ := Nat) (fun s => [(2, .slice T t.length ct), (3, .pointer (some ⟨b2, 0, none⟩)), (4, .pointer (some ⟨b3, 0, none⟩)), (11, .slice (some ⟨b11, 0, none⟩) P P), (43, .int .i64 t.length), (44, .int .i64 (s : Int))])
    (fun s => [Vec 3 1 (some ⟨b11, 0, none⟩) P P ((sums (pubOf l v) t P s).map (Value.int .i64)), Blk b3 35 [.slice B v.length cv], Blk b2 27 [.slice A l.length c], F]) (fun s => s ≤ t.length) (fun s => t.length - s) 0 rfl (Nat.zero_le _) ⟨rfl, rfl, rfl, rfl, rfl, rfl, trivial⟩ (by rw [sums_zero]; (exact Ent.auto)) ?_
  intro n hn
  have hn : n ≤ t.length := hn
  by_cases hlt : n < t.length
  case neg =>
    obtain rfl : n = t.length := by omega
    repeat' first
      | ((with_reducible refine Nx.is_wp ?_); first | refine Nx.wo ?_ | refine Nx.zp (fun hc => ?_) (fun hc => ?_))
      | (refine Nx.zo ?_; first | refine Nx.opr rfl rfl ?_ | refine Nx.so ?_ | refine Nx.sb (fun bx => ?_) | refine Nx.sa (fun A2 c2 => ?_))
      | ((with_reducible refine Nx.is_at ?_); first | refine Nx.a ?_ | refine Nx.zd ?_ | refine Nx.zs (fun hc => ?_) (fun hc => ?_))
      | ((with_reducible refine Nx.is_mix ?_); first | refine Nx.m ?_ | refine Nx.zm ?_ | refine Nx.zt (fun hc => ?_) (fun hc => ?_))
      | refine Nx.zx ?_ | fail
    exact Nx.ret_fn rfl [_] ⟨_, rfl, rfl⟩ (by (exact Ent.auto))
  have hO := Of_spec A B c cv l v n I hl hs hv hw (by omega)
  have hpb := pub_bd hs hw n
  have hsl := sums_len (pubOf l v) t P n
  by_cases hq0 : 0 ≤ pubOf l v n
  case neg =>
    have hsk := sums_skip (t := t) (P := P) (show pubOf l v n = -1 by omega)
    generalize pubOf l v n = y at hO hpb hq0
    repeat' first
      | ((with_reducible refine Nx.is_wp ?_); first | refine Nx.wo ?_ | refine Nx.zp (fun hc => ?_) (fun hc => ?_))
      | (refine Nx.zo ?_; first | refine Nx.opr rfl rfl ?_ | refine Nx.callv rfl rfl rfl (by kernel_rfl) rfl hO ?_ | refine Nx.so ?_ | refine Nx.sb (fun bx => ?_) | refine Nx.sa (fun A2 c2 => ?_))
      | ((with_reducible refine Nx.is_at ?_); first | refine Nx.a ?_ | refine Nx.zd ?_ | refine Nx.zs (fun hc => ?_) (fun hc => ?_))
      | ((with_reducible refine Nx.is_mix ?_); first | refine Nx.m ?_ | refine Nx.zm ?_ | refine Nx.zt (fun hc => ?_) (fun hc => ?_))
      | refine Nx.zx ?_ | fail
    exact Nx.again (n + 1) hlt (by omega) ⟨rfl, rfl, rfl, rfl, rfl, rfl, trivial⟩ (by rw [hsk]; (exact Ent.auto))
  obtain ⟨q, hq⟩ : ∃ q : Nat, pubOf l v n = q := ⟨(pubOf l v n).toNat, by omega⟩
  have hqP : q < P := by omega
  have hsq := sumAt_bd (p := pubOf l v) (k := (q : Int)) hT.each n (by omega)
  have hsa := sums_at (pubOf l v) t P n q hqP
  have hset := sums_set (t := t) (P := P) hq.symm
  have htn := hT.each n hlt
  have htr : ∀ (W : World) (R : List Res), Rd W I R ((ad T).add (n * 1)) (.int .i64 (t.getD n default)) := fun W R => ht.rd hlt
  rw [hq] at hO
  rw [← hsa] at hsq
  generalize t.getD n default = y at htn htr hset
  generalize sums (pubOf l v) t P n = sm at hsl hsq hset
  repeat' first
    | ((with_reducible refine Nx.is_wp ?_); first | refine Nx.wo ?_ | refine Nx.p_drawF (id := 18) rfl [0, 1, 2, 3, 4, 5, 6, 7, 8, 9] [] [10] _ rfl rfl (by kernel_rfl) (by kernel_rfl) rfl (by repeat first | exact PanicOk.fn | refine PanicOk.then_ ?_ | refine PanicOk.inB ?_) (Ent.refl _) ?_ | refine Nx.zp (fun hc => ?_) (fun hc => ?_))
    | (refine Nx.zo ?_; first | refine Nx.opr rfl rfl ?_ | refine Nx.callv rfl rfl rfl (by kernel_rfl) rfl hO ?_ | refine Nx.store_of 0 (Value.int .i64) rfl rfl rfl rfl rfl rfl (by omega) ?_ | refine Nx.so ?_ | refine Nx.sb (fun bx => ?_) | refine Nx.sa (fun A2 c2 => ?_))
    | ((with_reducible refine Nx.is_at ?_); first | refine Nx.a ?_ | refine Nx.zd ?_ | refine Nx.zs (fun hc => ?_) (fun hc => ?_))
    | ((with_reducible refine Nx.is_mix ?_); first | refine Nx.m_quiet rfl rfl rfl rfl rfl (by first | exact QRun.opr rfl | exact QRun.idx (A := some ⟨b11, 0, none⟩) (i := q) (sz := 1) rfl rfl rfl rfl (by omega) rfl | exact QRun.idx (A := T) (i := n) (sz := 1) rfl rfl rfl rfl (by omega) (ht.isSome (by omega)) | exact QRun.load rfl rfl (htr _ _) | exact QRun.load rfl rfl (Rd.vecEl 0 (f := Value.int .i64) (l := sm) (i := q) rfl (by omega))) ?_ | refine Nx.m_quiet_do rfl rfl rfl rfl rfl rfl rfl (by first | exact QRun.opr rfl | exact QRun.idx (A := some ⟨b11, 0, none⟩) (i := q) (sz := 1) rfl rfl rfl rfl (by omega) rfl | exact QRun.idx (A := T) (i := n) (sz := 1) rfl rfl rfl rfl (by omega) (ht.isSome (by omega)) | exact QRun.load rfl rfl (htr _ _) | exact QRun.load rfl rfl (Rd.vecEl 0 (f := Value.int .i64) (l := sm) (i := q) rfl (by omega))) ?_ | refine Nx.m ?_ | refine Nx.zm ?_ | refine Nx.zt (fun hc => ?_) (fun hc => ?_))
    | refine Nx.zx ?_ | fail
  exact Nx.again (n + 1) hlt (by omega) ⟨rfl, rfl, rfl, rfl, rfl, rfl, trivial⟩ (by rw [← hset]; (exact Ent.auto))
end Go.Proofs.Ytcmdemfhbekabaa
/- Contracts of functions of the given program, and lemmas about plain lists and numbers: what the laws of this seat lean on. -/
namespace Go.Proofs.Ytcmdemfhbekabaa
open Go.Eng
attribute [local irreducible] opK wpList Code.wp Exit.then Exit.inBlock fnPost bodyPost Nx Calls Oper.wp Rd Rds Wr Ent Stars Blk Again Vec FnSpec wpMix QRun Stop Upto wpAt
/-! Made tables and made views -/
abbrev Bytes := SliceOf (fun x : Int => Value.int .u8 x)
structure CodesOk (I : PH) (A : Option Addr) (c : Nat) (L : List Int) : Prop where
  sl : Bytes I A c L
  each : ∀ x ∈ L, 0 ≤ x ∧ x < 256
theorem CodesOk.mono {I I' : PH} {A : Option Addr} {c : Nat} {L : List Int} (hle : PH.le I I') (h : CodesOk I A c L) : CodesOk I' A c L := ⟨h.sl.mono hle, h.each⟩
def CodesR (b : Nat) (A : Option Addr) (c : Nat) (L : List Int) (k : Nat) : Res := Blk b 57 [.slice A L.length c, .int .i64 (k : Int)]
set_option maxHeartbeats 8000000 in
theorem Next_any (b : Nat) (A : Option Addr) (c : Nat) (L : List Int) (k : Nat) (n : Int) (I : PH) (hL : CodesOk I A c L) (hk : k ≤ L.length) (hn : 1 ≤ n ∧ n ≤ 1000000) :
    FnSpec Try.prog 22 [.pointer (some ⟨b, 0, none⟩), .int .i64 n] I [CodesR b A c L k]
      (fun v R' => ∃ (r : Int) (k' : Nat), v = .int .i64 r ∧ (0 ≤ r ∧ r < n) ∧ k' ≤ L.length ∧ R' = [CodesR b A c L k']) := Next_spec b A c L k n I hL.sl hL.each hk hn
set_option maxHeartbeats 8000000 in
set_option maxRecDepth 10000 in
theorem Cells_spec (b : Nat) (A B : Option Addr) (c cs : Nat) (L l : List Int) (k : Nat) (most : Int) (I : PH) (hL : CodesOk I A c L) (hk : k ≤ L.length) (hl : Ints I B cs l) (hs : Sizes l) (hm : 0 ≤ most ∧ most ≤ 1000) :
    FnSpec Try.prog 20 [.pointer (some ⟨b, 0, none⟩), .agg #[.slice B l.length cs], .int .i64 most] I [CodesR b A c L k]
      (fun v R' => ∃ (bt : Nat) (t : List Int) (k' : Nat), v = .slice (some ⟨bt, 0, none⟩) t.length t.length ∧ t.length = (prod l).toNat ∧ (∀ j, j < t.length → 0 ≤ t.getD j default ∧ t.getD j default ≤ most) ∧ k' ≤ L.length ∧
        R' = [Vec 3 1 (some ⟨bt, 0, none⟩) t.length t.length (t.map (Value.int .i64)), CodesR b A c L k']) := by
  have hpr := hs.bound (k := l.length) (Nat.le_refl _)
  rw [List.take_length] at hpr
  refine FnSpec.enterP Try.func20 rfl Try.ntmps20 rfl fun w F => ?_
  repeat' first
    | ((with_reducible refine Nx.is_wp ?_); first | refine Nx.wo ?_ | refine Nx.zp (fun hc => ?_) (fun hc => ?_))
    | (refine Nx.zo ?_; first | refine Nx.opr rfl rfl ?_ | refine Nx.callv rfl rfl rfl (by kernel_rfl) rfl (RCount_spec _ _ _ _ hl hs) ?_ | refine Nx.so ?_ | refine Nx.sb (fun bx => ?_) | refine Nx.sa (fun A2 c2 => ?_))
    | ((with_reducible refine Nx.is_at ?_); first | refine Nx.a ?_ | refine Nx.zd ?_ | refine Nx.zs (fun hc => ?_) (fun hc => ?_))
    | ((with_reducible refine Nx.is_mix ?_); first | refine Nx.m ?_ | refine Nx.zm ?_ | refine Nx.zt (fun hc => ?_) (fun hc => ?_))
    | refine Nx.zx ?_ | fail
  rw [show prod l = (((prod l).toNat : Nat) : Int) by omega]
  generalize hP : (prod l).toNat = P at hpr ⊢
  have hP48 : P ≤ 4096 := by omega
  repeat' first
    | ((with_reducible refine Nx.is_wp ?_); first | refine Nx.wo ?_ | refine Nx.zp (fun hc => ?_) (fun hc => ?_))
    | (refine Nx.zo ?_; first | refine Nx.opr rfl rfl ?_ | refine Nx.so ?_ | refine Nx.sb (fun bx => ?_) | refine Nx.sa (fun A2 c2 => ?_))
    | ((with_reducible refine Nx.is_at ?_); first | refine Nx.a ?_ | refine Nx.zd ?_ | refine Nx.zs (fun hc => ?_) (fun hc => ?_))
    | ((with_reducible refine Nx.is_mix ?_); first | refine Nx.m ?_ | refine Nx.zm ?_ | refine Nx.zt (fun hc => ?_) (fun hc => ?_))
    | refine Nx.zx ?_ | fail
  refine Nx.p_loop (σ := Nat × Nat × List Int) (fun s => [(0, .pointer (some ⟨b, 0, none⟩)), (2, .int .i64 most), (7, .slice (some ⟨bx, 0, none⟩) P P), (12, .slice (some ⟨bx, 0, none⟩) P P), (13, .int .i64 (P : Int)), (14, .int .i64 (s.1 : Int))])
    (fun s => [Vec 3 1 (some ⟨bx, 0, none⟩) P P (s.2.2.map (Value.int .i64)), CodesR b A c L s.2.1, F]) (fun s => s.1 ≤ P ∧ s.2.1 ≤ L.length ∧ s.2.2.length = P ∧ ∀ j, j < P → 0 ≤ s.2.2.getD j default ∧ s.2.2.getD j default ≤ most) (fun s => P - s.1) (0, k, List.replicate P 0) rfl
    ⟨Nat.zero_le _, hk, by simp, fun j hj => by rw [List.getD_eq_getElem?_getD, List.getElem?_replicate, if_pos hj]; exact ⟨Int.le_refl _, hm.1⟩⟩ ⟨rfl, rfl, rfl, rfl, rfl, rfl, trivial⟩ (by (exact Ent.auto)) ?_
  rintro ⟨i, kc, t⟩ ⟨hi, hkc, htl, hte⟩
  dsimp only at hi hkc htl hte ⊢
  repeat' first
    | ((with_reducible refine Nx.is_wp ?_); first | refine Nx.wo ?_ | refine Nx.zp (fun hc => ?_) (fun hc => ?_))
    | (refine Nx.zo ?_; first | refine Nx.opr rfl rfl ?_ | refine Nx.so ?_ | refine Nx.sb (fun bx => ?_) | refine Nx.sa (fun A2 c2 => ?_))
    | ((with_reducible refine Nx.is_at ?_); first | refine Nx.a ?_ | refine Nx.zd ?_ | refine Nx.zs (fun hc => ?_) (fun hc => ?_))
    | ((with_reducible refine Nx.is_mix ?_); first | refine Nx.m ?_ | refine Nx.zm ?_ | refine Nx.zt (fun hc => ?_) (fun hc => ?_))
    | refine Nx.zx ?_ | fail
  · refine Nx.at_op rfl rfl ?_
    refine Nx.call rfl rfl rfl (by kernel_rfl) rfl (Next_any b A c L kc (most + 1) I hL hkc (by omega)) (by (exact Ent.auto)) ?_
    rintro v R' ⟨r, kc2, rfl, hr, hkc2, rfl⟩
    repeat' first
      | ((with_reducible refine Nx.is_wp ?_); first | refine Nx.wo ?_ | refine Nx.zp (fun hc => ?_) (fun hc => ?_))
      | (refine Nx.zo ?_; first | refine Nx.opr rfl rfl ?_ | refine Nx.indexAddr_nat rfl rfl rfl rfl rfl (by omega) rfl ?_ | refine Nx.so ?_ | refine Nx.sb (fun bx => ?_) | refine Nx.sa (fun A2 c2 => ?_))
      | ((with_reducible refine Nx.is_at ?_); first | refine Nx.a ?_ | refine Nx.zd ?_ | refine Nx.zs (fun hc => ?_) (fun hc => ?_))
      | ((with_reducible refine Nx.is_mix ?_); first | refine Nx.m ?_ | refine Nx.zm ?_ | refine Nx.zt (fun hc => ?_) (fun hc => ?_))
      | refine Nx.zx ?_ | fail
    refine Nx.again (i + 1, kc2, t.set i r) ⟨by dsimp only; omega, hkc2, by dsimp only; rw [List.length_set]; exact htl, fun j hj => ?_⟩ (by dsimp only; omega) ⟨rfl, rfl, rfl, rfl, rfl, rfl, trivial⟩ (by (exact Ent.auto))
    dsimp only
    by_cases hij : i = j
    · subst hij; rw [getD_set_eq (by omega)]; omega
    · rw [getD_set_ne hij]; exact hte j hj
  · refine Nx.ret_fn rfl [_, _] ⟨bx, t, kc, by rw [htl], by rw [htl, Int.toNat_natCast], fun j hj => hte j (by omega), hkc, by rw [htl]⟩ (by (exact Ent.auto))
def rowR (r : Row) : Res := Vec 3 1 r.1 r.2.2.length r.2.1 (r.2.2.map (Value.int .i64))
def ViewR (B : Option Addr) (cv : Nat) (v : List Row) : Res := Stars [Vec 25 1 B v.length cv (v.map rowV), Stars (v.map rowR)]
theorem ViewR.rows {B : Option Addr} {cv : Nat} {v : List Row} {m I' : PH} (hm : PH.le m I') (h : ViewR B cv v m) : RowsOf I' B cv v := by
  obtain ⟨m1, h1le, h1⟩ := Stars.get 0 h rfl
  obtain ⟨m2, h2le, h2⟩ := Stars.get 1 h rfl
  refine ⟨Vec.sliceOf (h1le.trans hm) h1, fun r hr => ?_⟩
  obtain ⟨k, hk, he⟩ := List.mem_iff_getElem.1 hr
  obtain ⟨m3, h3le, h3⟩ := Stars.get k (r := rowR r) h2 (by rw [nthL_eq, List.getElem?_map, List.getElem?_eq_getElem hk, he]; rfl)
  exact Vec.sliceOf ((h3le.trans h2le).trans hm) h3
theorem numb_snoc : ∀ (l : List Int) (g nx n : Int), numb l nx = some n → ¬(g < -1 ∨ n < g) → numb (l ++ [g]) nx = some (if g = n then n + 1 else n)
  | [], g, nx, n, h, hg => by
    simp only [numb] at h
    obtain rfl := Option.some.inj h
    simp only [List.nil_append, numb]
    rw [if_neg hg]
  | x :: r, g, nx, n, h, hg => by
    simp only [numb, List.cons_append] at h ⊢
    split at h
    · cases h
    · rename_i hx
      rw [if_neg hx]
      exact numb_snoc r g _ n h hg
structure VOk (P : Nat) (i : Nat) (gs : List Int) (nx : Int) : Prop where
  le : i ≤ P
  len : gs.length = P
  num : numb (gs.take i) 0 = some nx
  bd : 0 ≤ nx ∧ nx ≤ i
  pos : 0 < i → 1 ≤ nx
theorem take_set_succ {gs : List Int} {i : Nat} {g : Int} (h : i < gs.length) : (gs.set i g).take (i + 1) = gs.take i ++ [g] := by
  rw [List.take_succ_eq_append_getElem (by rw [List.length_set]; exact h), List.take_set_of_le (Nat.le_refl _)]
  simp
theorem VOk.eq {P i : Nat} {gs : List Int} {nx g : Int} (h : VOk P i gs nx) (hi : i < P) (hg : g = nx) : VOk P (i + 1) (gs.set i g) (nx + 1) := by
  have h1 := h.bd
  refine ⟨hi, by rw [List.length_set]; exact h.len, ?_, by omega, by omega⟩
  rw [take_set_succ (by rw [h.len]; exact hi), numb_snoc _ g 0 nx h.num (by omega), if_pos hg]
theorem VOk.ne {P i : Nat} {gs : List Int} {nx g : Int} (h : VOk P i gs nx) (hi : i < P) (hg : -1 ≤ g ∧ g < nx) (h0 : 0 < i) : VOk P (i + 1) (gs.set i g) nx := by
  have h1 := h.bd
  have h2 := h.pos h0
  refine ⟨hi, by rw [List.length_set]; exact h.len, ?_, by omega, by omega⟩
  rw [take_set_succ (by rw [h.len]; exact hi), numb_snoc _ g 0 nx h.num (by omega), if_neg (by omega)]
theorem VOk.done {P : Nat} {gs : List Int} {nx : Int} (h : VOk P P gs nx) (hP : 0 < P) : numbB gs = true := by
  have h1 := h.num
  rw [List.take_of_length_le (by rw [h.len]; exact Nat.le_refl _)] at h1
  unfold numbB
  rw [h1]
  exact decide_eq_true (by have := h.pos hP; omega)
theorem getD_app_l {α : Type} {v : List α} {x d : α} {j : Nat} (h : j < v.length) : (v ++ [x]).getD j d = v.getD j d := by
  rw [List.getD_eq_getElem?_getD, List.getElem?_append_left h, List.getD_eq_getElem?_getD]
theorem getD_app_r {α : Type} {v : List α} {x d : α} : (v ++ [x]).getD v.length d = x := by
  rw [List.getD_eq_getElem?_getD, List.getElem?_append_right (Nat.le_refl _), Nat.sub_self]; rfl
set_option maxRecDepth 10000 in
set_option maxHeartbeats 1000000 in
theorem View_made (b : Nat) (A B : Option Addr) (c cs : Nat) (L l : List Int) (k : Nat) (I : PH) (hL : CodesOk I A c L) (hk : k ≤ L.length) (hl : Ints I B cs l) (hs : Sizes l) :
    FnSpec Try.prog 10 [.pointer (some ⟨b, 0, none⟩), .agg #[.slice B l.length cs]] I [CodesR b A c L k]
      (fun u R' => ∃ (Av : Option Addr) (cv : Nat) (v : List Row) (k' : Nat), u = .agg #[.slice Av v.length cv] ∧ Viewed l v ∧ k' ≤ L.length ∧ R' = [ViewR Av cv v, CodesR b A c L k']) := by
  have hlen := hl.len
  have hd := hs.dims
  refine FnSpec.enterP Try.func10 rfl Try.ntmps10 rfl fun w F => ?_
  repeat' first
    | ((with_reducible refine Nx.is_wp ?_); first | refine Nx.wo ?_ | refine Nx.zp (fun hc => ?_) (fun hc => ?_))
    | (refine Nx.zo ?_; first | refine Nx.opr rfl rfl ?_ | refine Nx.so ?_ | refine Nx.sb (fun bx => ?_) | refine Nx.sa (fun A2 c2 => ?_))
    | ((with_reducible refine Nx.is_at ?_); first | refine Nx.a ?_ | refine Nx.zd ?_ | refine Nx.zs (fun hc => ?_) (fun hc => ?_))
    | ((with_reducible refine Nx.is_mix ?_); first | refine Nx.m ?_ | refine Nx.zm ?_ | refine Nx.zt (fun hc => ?_) (fun hc => ?_))
    | refine Nx.zx ?_ | fail
  rename_i b3 b4
  revert bx; intro b5
  refine Nx.p_loop (σ := Nat × Nat × Option Addr × Nat × List Row) (fun s => [(0, .pointer (some ⟨b, 0, none⟩)), (4, .pointer (some ⟨b4, 0, none⟩)), (5, .pointer (some ⟨b5, 0, none⟩)), (13, .slice B l.length cs), (14, .int .i64 l.length), (15, .int .i64 (s.1 : Int))])
    (fun s => [Blk b5 35 [.slice s.2.2.1 s.1 s.2.2.2.1], Vec 25 1 s.2.2.1 s.1 s.2.2.2.1 (s.2.2.2.2.map rowV), Stars (s.2.2.2.2.map rowR), CodesR b A c L s.2.1, Blk b4 35 [.slice none 0 0], F])
    (fun s => s.1 ≤ l.length ∧ s.2.1 ≤ L.length ∧ s.2.2.2.2.length = s.1 ∧ ∀ j, j < s.1 → ((s.2.2.2.2.getD j default).2.2.length : Int) = l.getD j default ∧ numbB (s.2.2.2.2.getD j default).2.2 = true) (fun s => l.length - s.1) (0, k, none, 0, []) rfl
    ⟨Nat.zero_le _, hk, rfl, fun j hj => absurd hj (Nat.not_lt_zero _)⟩ ⟨rfl, rfl, rfl, rfl, rfl, rfl, trivial⟩ ?_ ?_
  · exact ((Ent.vec_nil _ _ _).trans (Ent.stars_nil _)).trans (by (exact Ent.auto))
  rintro ⟨i, kc, Av, cv, v⟩ ⟨hi, hkc, hvl, hve⟩
  dsimp only at hi hkc hvl hve ⊢
  have hat := fun h => hs.at (k := i) h
  by_cases hlt : i < l.length
  · have hat := hat hlt
    repeat' first
      | ((with_reducible refine Nx.is_wp ?_); first | refine Nx.wo ?_ | refine Nx.zp (fun hc => ?_) (fun hc => ?_))
      | (refine Nx.zo ?_; first | refine Nx.opr rfl rfl ?_ | refine Nx.indexAddr_nat rfl rfl rfl rfl rfl (by omega) (hl.isSome (by omega)) ?_ | refine Nx.load rfl rfl rfl (hl.rd (by omega)) ?_ | refine Nx.so ?_ | refine Nx.sb (fun bx => ?_) | refine Nx.sa (fun A2 c2 => ?_))
      | ((with_reducible refine Nx.is_at ?_); first | refine Nx.a ?_ | refine Nx.zd ?_ | refine Nx.zs (fun hc => ?_) (fun hc => ?_))
      | ((with_reducible refine Nx.is_mix ?_); first | refine Nx.m ?_ | refine Nx.zm ?_ | refine Nx.zt (fun hc => ?_) (fun hc => ?_))
      | refine Nx.zx ?_ | fail
    obtain ⟨n, hn⟩ : ∃ n : Nat, l.getD i default = n := ⟨(l.getD i default).toNat, by omega⟩
    rw [hn] at hat ⊢
    repeat' first
      | ((with_reducible refine Nx.is_wp ?_); first | refine Nx.wo ?_ | refine Nx.zp (fun hc => ?_) (fun hc => ?_))
      | (refine Nx.zo ?_; first | refine Nx.opr rfl rfl ?_ | refine Nx.so ?_ | refine Nx.sb (fun bx => ?_) | refine Nx.sa (fun A2 c2 => ?_))
      | ((with_reducible refine Nx.is_at ?_); first | refine Nx.a ?_ | refine Nx.zd ?_ | refine Nx.zs (fun hc => ?_) (fun hc => ?_))
      | ((with_reducible refine Nx.is_mix ?_); first | refine Nx.m ?_ | refine Nx.zm ?_ | refine Nx.zt (fun hc => ?_) (fun hc => ?_))
      | refine Nx.zx ?_ | fail
    refine Nx.p_loop (σ := Nat × Nat × List Int × Int) (fun s => [(0, .pointer (some ⟨b, 0, none⟩)), (4, .pointer (some ⟨b4, 0, none⟩)), (5, .pointer (some ⟨b5, 0, none⟩)), (13, .slice B l.length cs), (14, .int .i64 l.length), (15, .int .i64 (i : Int)), (8, .slice (some ⟨bx, 0, none⟩) n n), (9, .int .i64 s.2.2.2), (21, .slice (some ⟨bx, 0, none⟩) n n), (22, .int .i64 (n : Int)), (23, .int .i64 (s.1 : Int))])
      (fun s => [Vec 3 1 (some ⟨bx, 0, none⟩) n n (s.2.2.1.map (Value.int .i64)), Blk b5 35 [.slice Av i cv], Vec 25 1 Av i cv (v.map rowV), Stars (v.map rowR), CodesR b A c L s.2.1, Blk b4 35 [.slice none 0 0], F])
      (fun s => VOk n s.1 s.2.2.1 s.2.2.2 ∧ s.2.1 ≤ L.length) (fun s => n - s.1) (0, kc, List.replicate n 0, 0) rfl
      ⟨⟨Nat.zero_le _, by simp, rfl, by simp, fun h => absurd h (Nat.lt_irrefl _)⟩, hkc⟩ ⟨rfl, rfl, rfl, rfl, rfl, rfl, rfl, rfl, rfl, rfl, rfl, trivial⟩ (by (exact Ent.auto)) ?_
    rintro ⟨j, kj, gs, nx⟩ ⟨hok, hkj⟩
    dsimp only at hok hkj ⊢
    have hjn := hok.le
    have hnx := hok.bd
    have hgl := hok.len
    by_cases hjl : j < n
    · repeat' first
        | ((with_reducible refine Nx.is_wp ?_); first | refine Nx.wo ?_ | refine Nx.zp (fun hc => ?_) (fun hc => ?_))
        | (refine Nx.zo ?_; first | refine Nx.opr rfl rfl ?_ | refine Nx.so ?_ | refine Nx.sb (fun bx => ?_) | refine Nx.sa (fun A2 c2 => ?_))
        | ((with_reducible refine Nx.is_at ?_); first | refine Nx.a ?_ | refine Nx.zd ?_ | refine Nx.zs (fun hc => ?_) (fun hc => ?_))
        | ((with_reducible refine Nx.is_mix ?_); first | refine Nx.m ?_ | refine Nx.zm ?_ | refine Nx.zt (fun hc => ?_) (fun hc => ?_))
        | refine Nx.zx ?_ | fail
      refine Nx.at_op rfl rfl ?_
      refine Nx.call rfl rfl rfl (by kernel_rfl) rfl (Next_any b A c L kj (nx + 2) I hL hkj (by omega)) (by (exact Ent.auto)) ?_
      rintro u R' ⟨r, k1, rfl, hr, hk1, rfl⟩
      repeat' first
        | ((with_reducible refine Nx.is_wp ?_); first | refine Nx.wo ?_ | refine Nx.zp (fun hc => ?_) (fun hc => ?_))
        | (refine Nx.zo ?_; first | refine Nx.opr rfl rfl ?_ | refine Nx.so ?_ | refine Nx.sb (fun bx => ?_) | refine Nx.sa (fun A2 c2 => ?_))
        | ((with_reducible refine Nx.is_at ?_); first | refine Nx.a ?_ | refine Nx.zd ?_ | refine Nx.zs (fun hc => ?_) (fun hc => ?_))
        | ((with_reducible refine Nx.is_mix ?_); first | refine Nx.m ?_ | refine Nx.zm ?_ | refine Nx.zt (fun hc => ?_) (fun hc => ?_))
        | refine Nx.zx ?_ | fail
      all_goals
        refine Nx.at_op rfl rfl ?_
        refine Nx.call rfl rfl rfl (by kernel_rfl) rfl (Next_any b A c L k1 8 I hL hk1 (by omega)) (by (exact Ent.auto)) ?_
        rintro u R' ⟨q, k2, rfl, hq, hk2, rfl⟩
        repeat' first
          | ((with_reducible refine Nx.is_wp ?_); first | refine Nx.wo ?_ | refine Nx.zp (fun hc => ?_) (fun hc => ?_))
          | (refine Nx.zo ?_; first | refine Nx.opr rfl rfl ?_ | refine Nx.indexAddr_nat rfl rfl rfl rfl rfl (by omega) rfl ?_ | refine Nx.so ?_ | refine Nx.sb (fun bx => ?_) | refine Nx.sa (fun A2 c2 => ?_))
          | ((with_reducible refine Nx.is_at ?_); first | refine Nx.a ?_ | refine Nx.zd ?_ | refine Nx.zs (fun hc => ?_) (fun hc => ?_))
          | ((with_reducible refine Nx.is_mix ?_); first | refine Nx.m ?_ | refine Nx.zm ?_ | refine Nx.zt (fun hc => ?_) (fun hc => ?_))
          | refine Nx.zx ?_ | fail
      all_goals first
        | exact Nx.again (j + 1, k2, gs.set j r, nx) ⟨hok.ne hjl (by omega) (by omega), hk2⟩ (by dsimp only; omega) ⟨rfl, rfl, rfl, rfl, rfl, rfl, rfl, rfl, rfl, rfl, rfl, trivial⟩ (by (exact Ent.auto))
        | exact Nx.again (j + 1, k2, gs.set j r, nx + 1) ⟨hok.eq hjl (by omega), hk2⟩ (by dsimp only; omega) ⟨rfl, rfl, rfl, rfl, rfl, rfl, rfl, rfl, rfl, rfl, rfl, trivial⟩ (by (exact Ent.auto))
        | exact Nx.again (j + 1, k2, gs.set j nx, nx + 1) ⟨hok.eq hjl rfl, hk2⟩ (by dsimp only; omega) ⟨rfl, rfl, rfl, rfl, rfl, rfl, rfl, rfl, rfl, rfl, rfl, trivial⟩ (by (exact Ent.auto))
        | exact Nx.again (j + 1, k2, gs.set j (-1), nx) ⟨hok.ne hjl (by omega) (by omega), hk2⟩ (by dsimp only; omega) ⟨rfl, rfl, rfl, rfl, rfl, rfl, rfl, rfl, rfl, rfl, rfl, trivial⟩ (by (exact Ent.auto))
    · obtain rfl : j = n := by omega
      repeat' first
        | ((with_reducible refine Nx.is_wp ?_); first | refine Nx.wo ?_ | refine Nx.zp (fun hc => ?_) (fun hc => ?_))
        | (refine Nx.zo ?_; first | refine Nx.opr rfl rfl ?_ | refine Nx.so ?_ | refine Nx.sb (fun bx => ?_) | refine Nx.sa (fun A2 c2 => ?_))
        | ((with_reducible refine Nx.is_at ?_); first | refine Nx.a ?_ | refine Nx.zd ?_ | refine Nx.zs (fun hc => ?_) (fun hc => ?_))
        | ((with_reducible refine Nx.is_mix ?_); first | refine Nx.m ?_ | refine Nx.zm ?_ | refine Nx.zt (fun hc => ?_) (fun hc => ?_))
        | refine Nx.zx ?_ | fail
      rename_i bg
      subst hgl
      refine Nx.again (i + 1, kj, A2, c2, v ++ [(some ⟨bg, 0, none⟩, gs.length, gs)]) ⟨hlt, hkj, by simp [hvl], fun j hj => ?_⟩ (by dsimp only; omega) ⟨rfl, rfl, rfl, rfl, rfl, rfl, trivial⟩ ?_
      · dsimp only
        by_cases hji : j < i
        · rw [getD_app_l (by omega)]; exact hve j hji
        · obtain rfl : j = v.length := by dsimp only at hj; omega
          rw [getD_app_r]
          exact ⟨by rw [hvl, hn], hok.done (by omega)⟩
      · dsimp only
        refine Ent.trans (R' := [rowR (some ⟨bg, 0, none⟩, gs.length, gs), Stars (v.map rowR), Blk b5 35 [.slice A2 (i + 1) c2], Vec 25 1 A2 (i + 1) c2 (v.map rowV ++ [.slice (some ⟨bg, 0, none⟩) gs.length gs.length]), CodesR b A c L kj, Blk b4 35 [.slice none 0 0], F]) (by unfold rowR; (exact Ent.auto)) (Ent.bundle.trans ?_)
        rw [List.map_append, List.map_append]
        exact (by (exact Ent.auto))
  · repeat' first
      | ((with_reducible refine Nx.is_wp ?_); first | refine Nx.wo ?_ | refine Nx.zp (fun hc => ?_) (fun hc => ?_))
      | (refine Nx.zo ?_; first | refine Nx.opr rfl rfl ?_ | refine Nx.so ?_ | refine Nx.sb (fun bx => ?_) | refine Nx.sa (fun A2 c2 => ?_))
      | ((with_reducible refine Nx.is_at ?_); first | refine Nx.a ?_ | refine Nx.zd ?_ | refine Nx.zs (fun hc => ?_) (fun hc => ?_))
      | ((with_reducible refine Nx.is_mix ?_); first | refine Nx.m ?_ | refine Nx.zm ?_ | refine Nx.zt (fun hc => ?_) (fun hc => ?_))
      | refine Nx.zx ?_ | fail
    refine Nx.ret_cell 0 rfl rfl rfl rfl rfl rfl [ViewR Av cv v, CodesR b A c L kc] ⟨Av, cv, v, kc, by rw [hvl], ⟨by omega, fun j hj => hve j (by omega)⟩, hkc, rfl⟩ ?_
    refine Ent.trans (R' := [Vec 25 1 Av i cv (v.map rowV), Stars (v.map rowR), CodesR b A c L kc, F]) (by (exact Ent.auto)) ?_
    rw [← hvl]
    exact Ent.pack2
end Go.Proofs.Ytcmdemfhbekabaa
/- Contracts of functions of the given program, and lemmas about plain lists and numbers: what the laws of this seat lean on. -/
namespace Go.Proofs.Ytcmdemfhbekabaa
open Go.Eng
attribute [local irreducible] opK wpList Code.wp Exit.then Exit.inBlock fnPost bodyPost Nx Calls Oper.wp Rd Rds Wr Ent Stars Blk Again Vec FnSpec wpMix QRun Stop Upto wpAt
theorem bytes_take {I : PH} {A : Option Addr} {c : Nat} {l : List Int} (hl : Bytes I A c l) (hx : ∀ x ∈ l, 0 ≤ x ∧ x < 256) : CodesOk I A c (l.take 400) := ⟨hl.take 400, fun x h => hx x (List.mem_of_mem_take h)⟩
set_option maxHeartbeats 8000000 in
theorem New_codes (A : Option Addr) (c : Nat) (l : List Int) (I : PH) (hl : Bytes I A c l) :
    FnSpec Try.prog 6 [.slice A l.length c] I [] (fun v R' => ∃ b, v = .pointer (some ⟨b, 0, none⟩) ∧ R' = [CodesR b A c (l.take 400) 0]) := New_spec A c l I hl
set_option maxHeartbeats 8000000 in
theorem Space_made (b : Nat) (A : Option Addr) (c : Nat) (L : List Int) (k : Nat) (I : PH) (hL : CodesOk I A c L) (hk : k ≤ L.length) :
    FnSpec Try.prog 19 [.pointer (some ⟨b, 0, none⟩)] I [CodesR b A c L k]
      (fun v R' => ∃ (B : Option Addr) (c' : Nat) (s : List Int) (k' : Nat), v = .agg #[.slice B s.length c'] ∧ Sizes s ∧ k' ≤ L.length ∧ R' = [Vec 3 1 B s.length c' (s.map (Value.int .i64)), CodesR b A c L k']) := Space_spec b A c L k I hL.sl hL.each hk
end Go.Proofs.Ytcmdemfhbekabaa
/- Contracts of functions of the given program, and lemmas about plain lists and numbers: what the laws of this seat lean on. -/
namespace Go.Proofs.Ytcmdemfhbekabaa
open Go.Eng Go.Sol
/-! Plain: each published cell has members; what its value is -/
theorem pl_at {l : List Int} {n : Int} {k : Nat} (hk : k < l.length) : (pl l n).getD k default = plAt l n k := map_range_at _ _ _ hk
theorem pl_len (l : List Int) (n : Int) : (pl l n).length = l.length := by simp [pl]
theorem prod_pos {l : List Int} (hs : Sizes l) {k : Nat} (hk : k ≤ l.length) : 0 < prod (l.drop k) := by
  have := prod_drop_pos hs (l.length - k) (by omega)
  rwa [show l.length - (l.length - k) = k by omega] at this
theorem pl_num {l : List Int} {n : Int} (hs : Sizes l) (hn : 0 ≤ n ∧ n < prod l) : ∀ k, k ≤ l.length → numK l (pl l n) k = n / prod (l.drop k)
  | 0, _ => by rw [numK, List.drop_zero, Int.ediv_eq_zero_of_lt hn.1 hn.2]
  | k + 1, hk => by
    have hat := hs.at (k := k) (by omega)
    have hp := prod_pos hs (k := k + 1) (by omega)
    rw [numK, pl_num hs hn k (by omega), pl_at (by omega), plAt, prod_drop l k (by omega), Int.mul_comm (l.getD k default), ← Int.ediv_ediv_of_nonneg (by omega)]
    have := Int.mul_ediv_add_emod (n / prod (l.drop (k + 1))) (l.getD k default)
    rw [Int.mul_comm] at this
    exact this
theorem pl_inr {l : List Int} {n : Int} (hs : Sizes l) : InR l (pl l n) := ⟨pl_len l n, fun k hk => by
  have hat := hs.at (k := k) hk
  rw [pl_at hk, plAt]
  exact ⟨Int.emod_nonneg _ (by omega), Int.emod_lt_of_pos _ (by omega)⟩⟩
theorem pl_back {l : List Int} {n : Int} (hs : Sizes l) (hn : 0 ≤ n ∧ n < prod l) : numK l (pl l n) l.length = n := by
  rw [pl_num hs hn l.length (Nat.le_refl _), List.drop_length]
  show n / 1 = n
  exact Int.ediv_one n
theorem numb_has : ∀ {l : List Int} {nx n : Int}, numb l nx = some n → ∀ g, nx ≤ g → g < n → g ∈ l
  | [], nx, n, h, g, h1, h2 => by simp [numb] at h; omega
  | x :: r, nx, n, h, g, h1, h2 => by
    unfold numb at h
    split at h
    · cases h
    · by_cases he : x = nx
      · rw [if_pos he] at h
        by_cases hg : g = x
        · rw [hg]; exact List.mem_cons_self
        · exact List.mem_cons_of_mem _ (numb_has h g (by omega) h2)
      · rw [if_neg he] at h
        exact List.mem_cons_of_mem _ (numb_has h g h1 h2)
theorem grouped_has {l : List Int} (h : numbB l = true) {g : Int} (h0 : 0 ≤ g) (h1 : g ≤ maxL l (l.length - 1)) : ∃ j, j < l.length ∧ l.getD j default = g := by
  unfold numbB at h
  split at h
  · rename_i n hn
    obtain ⟨j, hj, he⟩ := maxL_at l (l.length - 1)
    have hl : 0 < l.length := by
      rcases Nat.eq_zero_or_pos l.length with h' | h'
      · rw [List.eq_nil_of_length_eq_zero h'] at hn
        simp [numb] at hn
        rw [← hn] at h; simp at h
      · exact h'
    have hm := (numb_facts l 0 n hn).2.2.1 (l.getD j default) (getD_mem (by omega))
    exact mem_getD (numb_has hn g h0 (by omega))
  · cases h
theorem pub_has {l : List Int} {v : List Row} (hs : Sizes l) (hw : Viewed l v) {k : Int} (hk : 0 ≤ k ∧ k < prod (szs v)) : ∃ j : Nat, (j : Int) < prod l ∧ pubOf l v j = k := by
  have hsz := hw.sizes hs
  have hlen : (szs v).length = l.length := by rw [szs_len, hw.len]
  have hgs := pl_inr (n := k) hsz
  have hex : ∀ i, i < l.length → ∃ j, j < (v.getD i default).2.2.length ∧ (v.getD i default).2.2.getD j default = (pl (szs v) k).getD i default := fun i hi => by
    have hg := hgs.each i (by omega)
    rw [szs_at v i (by rw [hw.len]; exact hi)] at hg
    exact grouped_has (hw.each i hi).2 hg.1 (by omega)
  have hch : ∃ f : Nat → Nat, ∀ i, i < l.length → f i < (v.getD i default).2.2.length ∧ (v.getD i default).2.2.getD (f i) default = (pl (szs v) k).getD i default :=
    ⟨fun i => if h : i < l.length then (hex i h).choose else 0, fun i hi => by
      have := (hex i hi).choose_spec
      simpa [hi] using this⟩
  obtain ⟨f, hf⟩ := hch
  have hxs : InR l ((List.range l.length).map fun i => (f i : Int)) := ⟨by simp, fun i hi => by
    rw [map_range_at _ _ _ hi]
    have := (hf i hi).1
    have := (hw.each i hi).1
    omega⟩
  have hb := numK_bound hxs l.length (Nat.le_refl _)
  rw [List.take_length] at hb
  generalize hxsd : (List.range l.length).map (fun i => (f i : Int)) = xs at hxs hb
  have hpl := pl_of hs hxs rfl
  have hgo : gsOf v xs = pl (szs v) k := by
    refine list_ext (by rw [pl_len, hlen]; simp [gsOf, hw.len]) fun i hi => ?_
    have hi : i < l.length := by simpa [gsOf, hw.len] using hi
    unfold gsOf
    rw [map_range_at _ _ _ (by rw [hw.len]; exact hi), ← hxsd, map_range_at _ _ _ hi, Int.toNat_natCast]
    exact (hf i hi).2
  refine ⟨(numK l xs l.length).toNat, by omega, ?_⟩
  unfold pubOf
  rw [show (((numK l xs l.length).toNat : Nat) : Int) = numK l xs l.length by omega, ← hpl, hgo, take_lt_no (fun i hi => (hgs.each i (by rw [pl_len] at hi; exact hi)).1), if_neg (by decide), ← szs_len v]
  exact pl_back hsz hk
theorem memK_in {l : List Int} {v : List Row} {k : Int} {n : Nat} {x : Int} : x ∈ memK l v k n ↔ ∃ j : Nat, j < n ∧ pubOf l v j = k ∧ x = j := by
  unfold memK
  rw [List.mem_map]
  constructor
  · rintro ⟨j, hj, rfl⟩
    rw [List.mem_filter, List.mem_range] at hj
    exact ⟨j, hj.1, of_decide_eq_true hj.2, rfl⟩
  · rintro ⟨j, h1, h2, rfl⟩
    exact ⟨j, List.mem_filter.2 ⟨List.mem_range.2 h1, decide_eq_true h2⟩, rfl⟩
theorem memK_asc (l : List Int) (v : List Row) (k : Int) (n : Nat) : (memK l v k n).Pairwise (· < ·) := by
  unfold memK
  rw [List.pairwise_map]
  exact (List.pairwise_lt_range.filter _).imp fun h => by omega
theorem memK_good {l : List Int} {v : List Row} (hs : Sizes l) (hw : Viewed l v) {k : Int} (hk : 0 ≤ k ∧ k < prod (szs v)) {A : Option Addr} {c : Nat} {z : Int} (hz : 0 ≤ z ∧ z ≤ 1000000) : GoodE (prod l).toNat ((A, c, memK l v k (prod l).toNat), z) := by
  refine ⟨?_, hz, memK_asc l v k _, fun x hx => ?_⟩
  · obtain ⟨j, hj, hp⟩ := pub_has hs hw hk
    intro h
    have : (j : Int) ∈ memK l v k (prod l).toNat := memK_in.2 ⟨j, by omega, hp, rfl⟩
    dsimp only at h
    rw [h] at this; cases this
  · obtain ⟨j, hj, _, rfl⟩ := memK_in.1 hx
    omega
theorem sumC_appC (t : List Int) (a b : List Nat) : sumC t (a ++ b) = sumC t a + sumC t b := by
  induction a with
  | nil => rw [List.nil_append, sumC, Int.zero_add]
  | cons x r ih => rw [List.cons_append, sumC, sumC, ih, Int.add_assoc]
theorem memK_sum (l t : List Int) (v : List Row) (k : Int) : ∀ n, sumC t ((memK l v k n).map Int.toNat) = sumAt (pubOf l v) t k n
  | 0 => rfl
  | n + 1 => by
    rw [memK_succ, List.map_append, sumC_appC, memK_sum l t v k n, sumAt]
    congr 1
    split
    · rw [List.map_cons, List.map_nil, Int.toNat_natCast, sumC, sumC, Int.add_zero]; rfl
    · rfl
/-! Releases -/
structure Rel where
  num : Int
  va : Option Addr
  vc : Nat
  v : List Row
  val : Row
instance : Inhabited Rel := ⟨⟨0, none, 0, [], (none, 0, [])⟩⟩
def relC (r : Rel) : List Value := [.int .i64 r.num, .slice r.va r.v.length r.vc, rowV r.val]
theorem relC_len (r : Rel) : (relC r).length = 3 := rfl
def relR (r : Rel) : Res := Stars [ViewR r.va r.vc r.v, rowR r.val]
structure Rels (I : PH) (A : Option Addr) (c : Nat) (l : List Rel) : Prop where
  outer : SliceN relC 3 I A c l
  view : ∀ r ∈ l, RowsOf I r.va r.vc r.v
  val : ∀ r ∈ l, Ints I r.val.1 r.val.2.1 r.val.2.2
theorem Rels.mono {I I' : PH} {A : Option Addr} {c : Nat} {l : List Rel} (hle : PH.le I I') (h : Rels I A c l) : Rels I' A c l := ⟨h.outer.mono hle, fun r hr => (h.view r hr).mono hle, fun r hr => (h.val r hr).mono hle⟩
/-- A release of a table: some values may be hidden. -/
structure RelOk (l t : List Int) (r : Rel) : Prop where
  view : Viewed l r.v
  len : r.val.2.2.length = (prod (szs r.v)).toNat
  each : ∀ j, j < r.val.2.2.length → r.val.2.2.getD j default = -1 ∨ r.val.2.2.getD j default = sumAt (pubOf l r.v) t (j : Int) t.length
structure RelsOk (l t : List Int) (rs : List Rel) : Prop where
  each : ∀ i, i < rs.length → RelOk l t (rs.getD i default) ∧ (rs.getD i default).num = i
end Go.Proofs.Ytcmdemfhbekabaa
/- Contracts of functions of the given program, and lemmas about plain lists and numbers: what the laws of this seat lean on. -/
namespace Go.Proofs.Ytcmdemfhbekabaa
open Go.Eng Go.Sol
attribute [local irreducible] opK wpList Code.wp Exit.then Exit.inBlock fnPost bodyPost Nx Calls Oper.wp Rd Rds Wr Ent Stars Blk Again Vec FnSpec wpMix QRun Stop Upto wpAt
/-! Made releases -/
abbrev spB (b5 : Nat) (B : Option Addr) (n cs : Nat) : Res := Blk b5 27 [.slice B n cs]
set_option maxRecDepth 10000 in
set_option maxHeartbeats 8000000 in
theorem Releases_made (b : Nat) (A B T : Option Addr) (c cs ct : Nat) (L l t : List Int) (k most : Nat) (I : PH) (hL : CodesOk I A c L) (hk : k ≤ L.length) (hl : Ints I B cs l) (hs : Sizes l) (ht : Ints I T ct t) (hT : Table l t) (hm9 : most ≤ 1000) :
    FnSpec Try.prog 21 [.pointer (some ⟨b, 0, none⟩), .agg #[.slice B l.length cs], .slice T t.length ct, .int .i64 (most : Int)] I [CodesR b A c L k]
      (fun u R' => ∃ (As : Option Addr) (c' : Nat) (rs : List Rel) (k' : Nat), u = .slice As rs.length c' ∧ rs.length ≤ most ∧ RelsOk l t rs ∧ k' ≤ L.length ∧ R' = [Vec 44 3 As rs.length c' (rs.flatMap relC), Stars (rs.map relR), CodesR b A c L k']) := by
  have hlen := hl.len
  have htl := ht.len
  refine FnSpec.enterP Try.func21 rfl Try.ntmps21 rfl fun w F => ?_
  repeat' first
    | ((with_reducible refine Nx.is_wp ?_); first | refine Nx.wo ?_ | refine Nx.zp (fun hc => ?_) (fun hc => ?_))
    | (refine Nx.zo ?_; first | refine Nx.opr rfl rfl ?_ | (refine Nx.call rfl rfl rfl (by kernel_rfl) rfl (Next_any b A c L k ((most : Int) + 1) I hL hk (by omega)) (by (exact Ent.auto)) ?_; rintro _ _ ⟨n, k1, rfl, hn, hk1, rfl⟩) | refine Nx.so ?_ | refine Nx.sb (fun bx => ?_) | refine Nx.sa (fun A2 c2 => ?_))
    | ((with_reducible refine Nx.is_at ?_); first | refine Nx.a ?_ | refine Nx.zd ?_ | refine Nx.zs (fun hc => ?_) (fun hc => ?_))
    | ((with_reducible refine Nx.is_mix ?_); first | refine Nx.m ?_ | refine Nx.zm ?_ | refine Nx.zt (fun hc => ?_) (fun hc => ?_))
    | refine Nx.zx ?_ | fail
  obtain ⟨m, rfl⟩ : ∃ m : Nat, n = m := ⟨n.toNat, by omega⟩
  revert bx; intro b5
  refine Nx.p_loop (σ := Nat × Nat × Option Addr × Nat × List Rel) (fun s => [(0, .pointer (some ⟨b, 0, none⟩)), (2, .slice T t.length ct), (5, .pointer (some ⟨b5, 0, none⟩)), (9, .slice s.2.2.1 s.2.2.2.2.length s.2.2.2.1), (10, .int .i64 (s.1 : Int))])
    (fun s => [Vec 44 3 s.2.2.1 s.2.2.2.2.length s.2.2.2.1 (s.2.2.2.2.flatMap relC), Stars (s.2.2.2.2.map relR), CodesR b A c L s.2.1, spB b5 B l.length cs, F]) (fun s => s.2.1 ≤ L.length ∧ s.2.2.2.2.length + s.1 ≤ most ∧ RelsOk l t s.2.2.2.2) (fun s => s.1) (m, k1, none, 0, []) rfl
    ⟨hk1, by dsimp only; simp; omega, ⟨fun i hi => absurd hi (Nat.not_lt_zero _)⟩⟩ ⟨rfl, rfl, rfl, rfl, rfl, trivial⟩ ((Ent.stars_nil _).trans ((Ent.vec_nil 44 3 _).trans (by (exact Ent.auto)))) ?_
  rintro ⟨n, kc, As, c', rs⟩ ⟨hkc, hrl, hrs⟩
  dsimp only at hkc hrl hrs ⊢
  cases n with
  | zero =>
    repeat' first
      | ((with_reducible refine Nx.is_wp ?_); first | refine Nx.wo ?_ | refine Nx.zp (fun hc => ?_) (fun hc => ?_))
      | (refine Nx.zo ?_; first | refine Nx.opr rfl rfl ?_ | refine Nx.so ?_ | refine Nx.sb (fun bx => ?_) | refine Nx.sa (fun A2 c2 => ?_))
      | ((with_reducible refine Nx.is_at ?_); first | refine Nx.a ?_ | refine Nx.zd ?_ | refine Nx.zs (fun hc => ?_) (fun hc => ?_))
      | ((with_reducible refine Nx.is_mix ?_); first | refine Nx.m ?_ | refine Nx.zm ?_ | refine Nx.zt (fun hc => ?_) (fun hc => ?_))
      | refine Nx.zx ?_ | fail
    exact Nx.ret_fn rfl [_, _, _] ⟨As, c', rs, kc, rfl, by omega, hrs, hkc, rfl⟩ (by (exact Ent.auto))
  | succ n =>
    repeat' first
      | ((with_reducible refine Nx.is_wp ?_); first | refine Nx.wo ?_ | refine Nx.zp (fun hc => ?_) (fun hc => ?_))
      | (refine Nx.zo ?_; first | refine Nx.opr rfl rfl ?_ | (refine Nx.call rfl rfl rfl (by kernel_rfl) rfl (View_made b A B c cs L l kc I hL hkc hl hs) (by (exact Ent.auto)) ?_; rintro _ _ ⟨Av, cv, v, k2, rfl, hw, hk2, rfl⟩) | refine Nx.so ?_ | refine Nx.sb (fun bx => ?_) | refine Nx.sa (fun A2 c2 => ?_))
      | ((with_reducible refine Nx.is_at ?_); first | refine Nx.a ?_ | refine Nx.zd ?_ | refine Nx.zs (fun hc => ?_) (fun hc => ?_))
      | ((with_reducible refine Nx.is_mix ?_); first | refine Nx.m ?_ | refine Nx.zm ?_ | refine Nx.zt (fun hc => ?_) (fun hc => ?_))
      | refine Nx.zx ?_ | fail
    revert bx; intro b11
    refine Nx.ent (R' := [ViewR Av cv v, Blk b11 35 [.slice Av v.length cv], CodesR b A c L k2, Vec 44 3 As rs.length c' (rs.flatMap relC), Stars (rs.map relR), spB b5 B l.length cs, F]) (by (exact Ent.auto)) ?_
    refine Nx.at_op rfl rfl ?_
    refine Nx.call_lendR 0 rfl rfl rfl (by kernel_rfl) rfl rfl (fun m I' hle hm hv => RPublish_spec B Av T cs cv ct l t v I' (hl.mono hle) hs (ViewR.rows hm hv) hw (ht.mono hle) hT) ?_
    rintro _ _ ⟨Ap, rfl, rfl⟩
    have hszs := hw.sizes hs
    have hpr := hszs.bound (k := (szs v).length) (Nat.le_refl _)
    rw [List.take_length] at hpr
    generalize hP : (prod (szs v)).toNat = P
    have hsl := sums_len (pubOf l v) t P t.length
    generalize hz0 : sums (pubOf l v) t P t.length = z0 at hsl
    have hz1 : ∀ j, j < P → z0.getD j default = sumAt (pubOf l v) t (j : Int) t.length := fun j hj => by rw [← hz0, sums_at _ _ _ _ _ hj]
    repeat' first
      | ((with_reducible refine Nx.is_wp ?_); first | refine Nx.wo ?_ | refine Nx.zp (fun hc => ?_) (fun hc => ?_))
      | (refine Nx.zo ?_; first | refine Nx.opr rfl rfl ?_ | refine Nx.so ?_ | refine Nx.sb (fun bx => ?_) | refine Nx.sa (fun A2 c2 => ?_))
      | ((with_reducible refine Nx.is_at ?_); first | refine Nx.a ?_ | refine Nx.zd ?_ | refine Nx.zs (fun hc => ?_) (fun hc => ?_))
      | ((with_reducible refine Nx.is_mix ?_); first | refine Nx.m ?_ | refine Nx.zm ?_ | refine Nx.zt (fun hc => ?_) (fun hc => ?_))
      | refine Nx.zx ?_ | fail
    refine Nx.p_loop (σ := Nat × Nat × List Int) (fun s => [(0, .pointer (some ⟨b, 0, none⟩)), (2, .slice T t.length ct), (5, .pointer (some ⟨b5, 0, none⟩)), (9, .slice As rs.length c'), (10, .int .i64 ((n + 1 : Nat) : Int)), (11, .pointer (some ⟨b11, 0, none⟩)), (12, .slice Ap P P), (33, .slice Ap P P), (34, .int .i64 (P : Int)), (35, .int .i64 (s.1 : Int))])
      (fun s => [Vec 3 1 Ap P P (s.2.2.map (Value.int .i64)), CodesR b A c L s.2.1, ViewR Av cv v, Blk b11 35 [.slice Av v.length cv], Vec 44 3 As rs.length c' (rs.flatMap relC), Stars (rs.map relR), spB b5 B l.length cs, F]) (fun s => s.1 ≤ P ∧ s.2.1 ≤ L.length ∧ s.2.2.length = P ∧ ∀ j, j < P → s.2.2.getD j default = -1 ∨ s.2.2.getD j default = sumAt (pubOf l v) t (j : Int) t.length) (fun s => P - s.1) (0, k2, z0) rfl
      ⟨Nat.zero_le _, hk2, hsl, fun j hj => .inr (hz1 j hj)⟩ ⟨rfl, rfl, rfl, rfl, rfl, rfl, rfl, rfl, rfl, rfl, trivial⟩ (by (exact Ent.auto)) ?_
    rintro ⟨i, ki, z⟩ ⟨hi, hki, hzl, hz⟩
    dsimp only at hi hki hzl hz ⊢
    by_cases hiP : i < P
    · refine Nx.vec_fact fun _ _ _ hAp => ?_
      repeat' first
        | ((with_reducible refine Nx.is_wp ?_); first | refine Nx.wo ?_ | refine Nx.zp (fun hc => ?_) (fun hc => ?_))
        | (refine Nx.zo ?_; first | refine Nx.opr rfl rfl ?_ | (refine Nx.call rfl rfl rfl (by kernel_rfl) rfl (Next_any b A c L ki 5 I hL hki (by omega)) (by (exact Ent.auto)) ?_; rintro _ _ ⟨r, k3, rfl, hr, hk3, rfl⟩) | refine Nx.indexAddr_nat rfl rfl rfl rfl rfl hiP (hAp (by omega)) ?_ | refine Nx.store_of 1 (Value.int .i64) (l := z) (i := i) (z := -1) rfl rfl rfl rfl rfl rfl hiP ?_ | refine Nx.so ?_ | refine Nx.sb (fun bx => ?_) | refine Nx.sa (fun A2 c2 => ?_))
        | ((with_reducible refine Nx.is_at ?_); first | refine Nx.a ?_ | refine Nx.zd ?_ | refine Nx.zs (fun hc => ?_) (fun hc => ?_))
        | ((with_reducible refine Nx.is_mix ?_); first | refine Nx.m ?_ | refine Nx.zm ?_ | refine Nx.zt (fun hc => ?_) (fun hc => ?_))
        | refine Nx.zx ?_ | fail
      · exact Nx.again (i + 1, k3, z.set i (-1)) ⟨hiP, hk3, by dsimp only; rw [List.length_set]; exact hzl, fun j hj => by
            dsimp only
            by_cases hij : i = j
            · subst hij; exact .inl (getD_set_eq (by omega))
            · rw [getD_set_ne hij]; exact hz j hj⟩ (by dsimp only; omega) ⟨rfl, rfl, rfl, rfl, rfl, rfl, rfl, rfl, rfl, rfl, trivial⟩ (by (exact Ent.auto))
      · exact Nx.again (i + 1, k3, z) ⟨hiP, hk3, hzl, hz⟩ (by dsimp only; omega) ⟨rfl, rfl, rfl, rfl, rfl, rfl, rfl, rfl, rfl, rfl, trivial⟩ (by (exact Ent.auto))
    obtain rfl : i = P := by omega
    subst hzl
    repeat' first
      | ((with_reducible refine Nx.is_wp ?_); first | refine Nx.wo ?_ | refine Nx.zp (fun hc => ?_) (fun hc => ?_))
      | (refine Nx.zo ?_; first | refine Nx.opr rfl rfl ?_ | refine Nx.so ?_ | refine Nx.sb (fun bx => ?_) | refine Nx.sa (fun A2 c2 => ?_))
      | ((with_reducible refine Nx.is_at ?_); first | refine Nx.a ?_ | refine Nx.zd ?_ | refine Nx.zs (fun hc => ?_) (fun hc => ?_))
      | ((with_reducible refine Nx.is_mix ?_); first | refine Nx.m ?_ | refine Nx.zm ?_ | refine Nx.zt (fun hc => ?_) (fun hc => ?_))
      | refine Nx.zx ?_ | fail
    refine Nx.again (n, ki, A2, c2, rs ++ [⟨(rs.length : Int), Av, cv, v, (Ap, z.length, z)⟩]) ⟨hki, by dsimp only; rw [List.length_append]; show rs.length + 1 + n ≤ most; omega, ⟨fun i hi => ?_⟩⟩ (by dsimp only; omega) ⟨rfl, rfl, rfl, by dsimp only; rw [List.length_append]; rfl, by dsimp only; rw [show ((n + 1 : Nat) : Int) - 1 = (n : Int) by omega]; rfl, trivial⟩ ?_
    · dsimp only
      by_cases hir : i < rs.length
      · rw [List.getD_eq_getElem?_getD, List.getElem?_append_left hir, ← List.getD_eq_getElem?_getD]
        exact hrs.each i hir
      · obtain rfl : i = rs.length := by rw [List.length_append, List.length_singleton] at hi; omega
        rw [List.getD_eq_getElem?_getD, List.getElem?_append_right (Nat.le_refl _), Nat.sub_self]
        exact ⟨⟨hw, show z.length = (prod (szs v)).toNat from hP.symm, hz⟩, rfl⟩
    · dsimp only
      refine Ent.trans (R' := [ViewR Av cv v, rowR (Ap, z.length, z), Stars (rs.map relR), Vec 44 3 A2 (rs.length + 1) c2 (rs.flatMap relC ++ relC ⟨(rs.length : Int), Av, cv, v, (Ap, z.length, z)⟩), CodesR b A c L ki, spB b5 B l.length cs, F]) (by unfold rowR relC rowV; (exact Ent.auto)) ?_
      refine Ent.pack2.trans ?_
      refine Ent.trans (R' := Stars (rs.map relR ++ [relR ⟨(rs.length : Int), Av, cv, v, (Ap, z.length, z)⟩]) :: [Vec 44 3 A2 (rs.length + 1) c2 (rs.flatMap relC ++ relC ⟨(rs.length : Int), Av, cv, v, (Ap, z.length, z)⟩), CodesR b A c L ki, spB b5 B l.length cs, F]) Ent.bundle ?_
      rw [List.length_append, List.flatMap_append, List.map_append, List.flatMap_cons, List.flatMap_nil, List.append_nil]
      (exact Ent.auto)
end Go.Proofs.Ytcmdemfhbekabaa
/- Contracts of functions of the given program, and lemmas about plain lists and numbers: what the laws of this seat lean on. -/
namespace Go.Proofs.Ytcmdemfhbekabaa
open Go.Eng Go.Sol
attribute [local irreducible] opK wpList Code.wp Exit.then Exit.inBlock fnPost bodyPost Nx Calls Oper.wp Rd Rds Wr Ent Stars Blk Again Vec FnSpec wpMix QRun Stop Upto wpAt
/-! The reference's equations: what right releases tell -/
/-- A right release of a space. -/
structure RelV (l : List Int) (r : Rel) : Prop where
  view : Viewed l r.v
  len : r.val.2.2.length = (prod (szs r.v)).toNat
  each : ∀ j, j < r.val.2.2.length → r.val.2.2.getD j default = -1 ∨ (0 ≤ r.val.2.2.getD j default ∧ r.val.2.2.getD j default ≤ 1000000)
/-- Right releases of a space, by ascending numbers. -/
structure RelsV (l : List Int) (rs : List Rel) : Prop where
  len : rs.length ≤ 24
  each : ∀ i, i < rs.length → RelV l (rs.getD i default) ∧ 0 ≤ (rs.getD i default).num ∧ (rs.getD i default).num < 24
  asc : ∀ i, i + 1 < rs.length → (rs.getD i default).num < (rs.getD (i + 1) default).num
def prevN (rs : List Rel) : Nat → Int
  | 0 => -1
  | i + 1 => (rs.getD i default).num
theorem RelsV.prev {l : List Int} {rs : List Rel} (h : RelsV l rs) : ∀ {i : Nat}, i < rs.length → prevN rs i < (rs.getD i default).num
  | 0, hi => by have := (h.each 0 hi).2.1; show -1 < _; omega
  | i + 1, hi => h.asc i hi
theorem getD_memR {l : List Rel} {k : Nat} (h : k < l.length) : l.getD k default ∈ l := by
  rw [List.getD_eq_getElem?_getD, List.getElem?_eq_getElem h]; exact List.getElem_mem _
/-! What releases tell -/
def cont (q : EqR) : List Int × Int := (q.1.2.2, q.2)
def toldK (l : List Int) (v : List Row) (vs : List Int) : Nat → List (List Int × Int)
  | 0 => []
  | j + 1 => toldK l v vs j ++ if vs.getD j default = -1 then [] else [(memK l v (j : Int) (prod l).toNat, vs.getD j default)]
def told (l : List Int) (r : Rel) : List (List Int × Int) := toldK l r.v r.val.2.2 r.val.2.2.length
abbrev eqsR (A : Option Addr) (c : Nat) (qs : List EqR) : List Res := [Vec 105 2 A qs.length c (qs.flatMap eqC), Stars (qs.map fun q => rowR q.1)]
theorem take_snocR {l : List Rel} {k : Nat} (h : k < l.length) : l.take (k + 1) = l.take k ++ [l.getD k default] := by
  rw [List.take_add_one, List.getElem?_eq_getElem h, List.getD_eq_getElem?_getD, List.getElem?_eq_getElem h]; rfl
end Go.Proofs.Ytcmdemfhbekabaa
/-
  The proof engine, part AP: a contract of a function that reads what its caller owns: it is lent and given back.
-/
namespace Go.Eng
set_option maxHeartbeats 8000000 in
theorem FnSpec.keep {P : Program} {f : FuncId} {al : List Value} {I : PH} {Rpre : List Res} {Post : Value → List Res → Prop} (B : List Res)
    (hs : ∀ m I', PH.le I I' → PH.le m I' → Stars B m → FnSpec P f al I' Rpre Post) : FnSpec P f al I (B ++ Rpre) (fun v R' => ∃ R0, Post v R0 ∧ R' = B ++ R0) := by
  intro w F hw
  rw [List.append_assoc] at hw
  obtain ⟨m, hd, hB, hl, hback⟩ := hw.lend
  refine Calls.mono (hs m _ (PH.le_or_left _ _) (PH.le_or_right hd) hB w F hl) ?_
  rintro en w' ⟨v, R', rfl, hv, hst⟩
  exact ⟨v, B ++ R', rfl, ⟨R', hv, rfl⟩, by rw [List.append_assoc]; exact hback hst⟩
theorem Ent.pre : ∀ (A B R : List Res), Ent (A ++ (B ++ R)) (A ++ R)
  | [], [], R => Ent.refl R
  | [], b :: B, R => Ent.drop (Ent.pre [] B R)
  | a :: A, B, R => Ent.cons (Ent.pre A B R)
end Go.Eng
/- Contracts of functions of the given program, and lemmas about plain lists and numbers: what the laws of this seat lean on. -/
namespace Go.Proofs.Ytcmdemfhbekabaa
open Go.Eng Go.Sol
attribute [local irreducible] opK wpList Code.wp Exit.then Exit.inBlock fnPost bodyPost Nx Calls Oper.wp Rd Rds Wr Ent Stars Blk Again Vec FnSpec wpMix QRun Stop Upto wpAt
/-! Made equations -/
theorem rels_of {As : Option Addr} {cs : Nat} {rs : List Rel} {m I' : PH} {m1 m2 : PH} (hm : PH.le m I') (h1 : Vec 44 3 As rs.length cs (rs.flatMap relC) m1) (hm1 : PH.le m1 m) (h2 : Stars (rs.map relR) m2) (hm2 : PH.le m2 m) : Rels I' As cs rs := by
  have hat : ∀ r ∈ rs, ∃ m3, PH.le m3 I' ∧ relR r m3 := fun r hr => by
    obtain ⟨k, hk, he⟩ := List.mem_iff_getElem.1 hr
    obtain ⟨m3, h3le, h3⟩ := Stars.get k (r := relR r) h2 (by rw [nthL_eq, List.getElem?_map, List.getElem?_eq_getElem hk, he]; rfl)
    exact ⟨m3, (h3le.trans hm2).trans hm, h3⟩
  refine ⟨Vec.sliceN (hm1.trans hm) h1 fun x _ => relC_len x, fun r hr => ?_, fun r hr => ?_⟩
  · obtain ⟨m3, h3, hr3⟩ := hat r hr
    obtain ⟨m4, h4le, h4⟩ := Stars.get 0 hr3 rfl
    exact ViewR.rows (h4le.trans h3) h4
  · obtain ⟨m3, h3, hr3⟩ := hat r hr
    obtain ⟨m4, h4le, h4⟩ := Stars.get 1 hr3 rfl
    exact Vec.sliceOf (h4le.trans h3) h4
abbrev tabOk (s t : List Int) (most : Int) : Prop := t.length = (prod s).toNat ∧ ∀ j, j < t.length → 0 ≤ t.getD j default ∧ t.getD j default ≤ most
abbrev toldR (B : Option Addr) (c' : Nat) (s : List Int) (At : Option Addr) (ct : Nat) (t : List Int) (As : Option Addr) (ca : Nat) (rs : List Rel) : List Res := [iR B c' s, iR At ct t, Vec 44 3 As rs.length ca (rs.flatMap relC), Stars (rs.map relR)]
set_option maxRecDepth 10000 in
set_option maxHeartbeats 8000000 in
theorem Told_made (b : Nat) (A : Option Addr) (c : Nat) (L : List Int) (k most n : Nat) (I : PH) (hL : CodesOk I A c L) (hk : k ≤ L.length) (hm : most ≤ 1000) (hn : n ≤ 1000) :
    FnSpec Try.prog 7 [.pointer (some ⟨b, 0, none⟩), .int .i64 (most : Int), .int .i64 (n : Int)] I [CodesR b A c L k]
      (fun u R' => ∃ (B : Option Addr) (c' : Nat) (s : List Int) (At : Option Addr) (ct : Nat) (t : List Int) (As : Option Addr) (ca : Nat) (rs : List Rel) (k' : Nat), u = .tuple #[.agg #[.slice B s.length c'], .slice At t.length ct, .slice As rs.length ca] ∧ Sizes s ∧ tabOk s t most ∧ rs.length ≤ n ∧ RelsOk s t rs ∧ k' ≤ L.length ∧ R' = toldR B c' s At ct t As ca rs ++ [CodesR b A c L k']) := by
  refine FnSpec.enterP Try.func7 rfl Try.ntmps7 rfl fun w F => ?_
  repeat' first
    | ((with_reducible refine Nx.is_wp ?_); first | refine Nx.wo ?_ | refine Nx.zp (fun hc => ?_) (fun hc => ?_))
    | (refine Nx.zo ?_; first | refine Nx.opr rfl rfl ?_ | refine Nx.so ?_ | refine Nx.sb (fun bx => ?_) | refine Nx.sa (fun A2 c2 => ?_))
    | ((with_reducible refine Nx.is_at ?_); first | refine Nx.a ?_ | refine Nx.zd ?_ | refine Nx.zs (fun hc => ?_) (fun hc => ?_))
    | ((with_reducible refine Nx.is_mix ?_); first | refine Nx.m ?_ | refine Nx.zm ?_ | refine Nx.zt (fun hc => ?_) (fun hc => ?_))
    | refine Nx.zx ?_ | fail
  revert bx; intro b6
  refine Nx.at_op rfl rfl ?_
  refine Nx.call rfl rfl rfl (by kernel_rfl) rfl (Space_made b A c L k I hL hk) (by (exact Ent.auto)) ?_
  rintro _ _ ⟨B, c', s, k1, rfl, hs, hk1, rfl⟩
  repeat' first
    | ((with_reducible refine Nx.is_wp ?_); first | refine Nx.wo ?_ | refine Nx.zp (fun hc => ?_) (fun hc => ?_))
    | (refine Nx.zo ?_; first | refine Nx.opr rfl rfl ?_ | refine Nx.so ?_ | refine Nx.sb (fun bx => ?_) | refine Nx.sa (fun A2 c2 => ?_))
    | ((with_reducible refine Nx.is_at ?_); first | refine Nx.a ?_ | refine Nx.zd ?_ | refine Nx.zs (fun hc => ?_) (fun hc => ?_))
    | ((with_reducible refine Nx.is_mix ?_); first | refine Nx.m ?_ | refine Nx.zm ?_ | refine Nx.zt (fun hc => ?_) (fun hc => ?_))
    | refine Nx.zx ?_ | fail
  revert bx; intro b9
  refine Nx.at_op rfl rfl ?_
  refine Nx.call rfl rfl rfl (by kernel_rfl) rfl (FnSpec.keep [iR B c' s] fun m I' hle hm' hv => Cells_spec b A B c c' L s k1 most I' (hL.mono hle) hk1 (by obtain ⟨m1, hm1, h1⟩ := Stars.get 0 hv rfl; exact Vec.sliceOf (hm1.trans hm') h1) hs (by omega)) (by (exact Ent.auto)) ?_
  rintro _ _ ⟨_, ⟨bt, t, k2, rfl, htl, hte, hk2, rfl⟩, rfl⟩
  have hT : Table s t := ⟨htl, fun j hj => by have := hte j hj; omega⟩
  repeat' first
    | ((with_reducible refine Nx.is_wp ?_); first | refine Nx.wo ?_ | refine Nx.p_drawF (id := 3) rfl [0, 1, 2, 3, 4, 5, 6, 7, 8, 9] [6, 7] [] _ rfl rfl (by kernel_rfl) (by kernel_rfl) rfl (by repeat first | exact PanicOk.fn | refine PanicOk.then_ ?_ | refine PanicOk.inB ?_) ((Ent.eraseK 4 _).trans (Ent.eraseK 2 _)) ?_ | refine Nx.zp (fun hc => ?_) (fun hc => ?_))
    | (refine Nx.zo ?_; first | refine Nx.opr rfl rfl ?_ | (refine Nx.call rfl rfl rfl (by kernel_rfl) rfl (FnSpec.keep [iR B c' s, iR (some ⟨bt, 0, none⟩) t.length t] fun m I' hle hm' hv => Releases_made b A B (some ⟨bt, 0, none⟩) c c' t.length L s t k2 n I' (hL.mono hle) hk2 (by obtain ⟨m1, hm1, h1⟩ := Stars.get 0 hv rfl; exact Vec.sliceOf (hm1.trans hm') h1) hs (by obtain ⟨m1, hm1, h1⟩ := Stars.get 1 hv rfl; exact Vec.sliceOf (hm1.trans hm') h1) hT hn) (by (exact Ent.auto)) ?_; rintro _ _ ⟨_, ⟨As, ca, rs, k3, rfl, hrn, hro, hk3, rfl⟩, rfl⟩) | refine Nx.so ?_ | refine Nx.sb (fun bx => ?_) | refine Nx.sa (fun A2 c2 => ?_))
    | ((with_reducible refine Nx.is_at ?_); first | refine Nx.a ?_ | refine Nx.zd ?_ | refine Nx.zs (fun hc => ?_) (fun hc => ?_))
    | ((with_reducible refine Nx.is_mix ?_); first | refine Nx.m ?_ | refine Nx.zm ?_ | refine Nx.zt (fun hc => ?_) (fun hc => ?_))
    | refine Nx.zx ?_ | fail
  exact Nx.ret3 rfl (ROne.cell 0 rfl rfl rfl rfl rfl) (ROne.tmp rfl) (ROne.tmp rfl) [_, _, _, _, _] ⟨B, c', s, _, _, t, As, ca, rs, k3, rfl, hs, ⟨htl, hte⟩, hrn, hro, hk3, rfl⟩ (by (exact Ent.auto))
theorem sumAt_bd2 {p : Nat → Int} {t : List Int} {k M : Int} (ht : ∀ j, j < t.length → 0 ≤ t.getD j default ∧ t.getD j default ≤ M) (hM : 0 ≤ M) : ∀ n, n ≤ t.length → 0 ≤ sumAt p t k n ∧ sumAt p t k n ≤ n * M
  | 0, _ => by simp [sumAt]
  | n + 1, h => by
    have ih := sumAt_bd2 (p := p) (k := k) ht hM n (by omega)
    have h1 := ht n (by omega)
    rw [sumAt]
    have e : ((n + 1 : Nat) : Int) * M = n * M + M := by rw [Int.natCast_succ, Int.add_mul, Int.one_mul]
    split <;> omega
theorem relsV_of {l t : List Int} {rs : List Rel} {most : Int} (hs : Sizes l) (hT : tabOk l t most) (h0 : 0 ≤ most) (hm : most ≤ 1000) (h : RelsOk l t rs) (hn : rs.length ≤ 24) : RelsV l rs := by
  have hc := hs.cells
  refine ⟨hn, fun i hi => ?_, fun i hi => ?_⟩
  · obtain ⟨⟨h1, h2, h3⟩, h4⟩ := h.each i hi
    refine ⟨⟨h1, h2, fun j hj => ?_⟩, by omega, by omega⟩
    rcases h3 j hj with h5 | h5
    · exact .inl h5
    · have hb := sumAt_bd2 (p := pubOf l (rs.getD i default).v) (k := (j : Int)) hT.2 h0 t.length (Nat.le_refl _)
      have hlt : (t.length : Int) ≤ 48 := by have := hT.1; omega
      have h6 : (t.length : Int) * most ≤ 48 * 1000 := Int.mul_le_mul hlt hm h0 (by omega)
      rw [h5]
      right; omega
  · have h1 := (h.each i (by omega)).2
    have h2 := (h.each (i + 1) hi).2
    omega
theorem mem_toldK {l : List Int} {v : List Row} {vs : List Int} {x : List Int × Int} : ∀ {n : Nat}, x ∈ toldK l v vs n ↔ ∃ j, j < n ∧ vs.getD j default ≠ -1 ∧ x = (memK l v (j : Int) (prod l).toNat, vs.getD j default)
  | 0 => by simp [toldK]
  | n + 1 => by
    rw [toldK, List.mem_append, mem_toldK]
    constructor
    · rintro (⟨j, h1, h2, h3⟩ | h)
      · exact ⟨j, by omega, h2, h3⟩
      · by_cases hz : vs.getD n default = -1
        · rw [if_pos hz] at h; cases h
        · rw [if_neg hz, List.mem_singleton] at h
          exact ⟨n, by omega, hz, h⟩
    · rintro ⟨j, h1, h2, h3⟩
      rcases Nat.lt_or_ge j n with hj | hj
      · exact .inl ⟨j, hj, h2, h3⟩
      · obtain rfl : j = n := by omega
        right
        rw [if_neg h2, List.mem_singleton]
        exact h3
/-- What releases of a table tell is valid, and the table agrees with it. -/
theorem told_eq {l t : List Int} {rs : List Rel} {most : Int} (hs : Sizes l) (hT : tabOk l t most) (h0 : 0 ≤ most) (hm : most ≤ 1000) (h : RelsOk l t rs) (hn : rs.length ≤ 24) {q : EqR} (hq : cont q ∈ rs.flatMap (told l)) : GoodE (prod l).toNat q ∧ sumC t (eqn q).1 = q.2 := by
  rw [List.mem_flatMap] at hq
  obtain ⟨r, hr, hq⟩ := hq
  obtain ⟨i, hi, he⟩ := List.mem_iff_getElem.1 hr
  have hri : rs.getD i default = r := by rw [List.getD_eq_getElem?_getD, List.getElem?_eq_getElem hi, he]; rfl
  have hV := ((relsV_of hs hT h0 hm h hn).each i hi).1
  have hO := (h.each i hi).1
  rw [hri] at hV hO
  unfold told at hq
  obtain ⟨j, hj, hne, hc⟩ := mem_toldK.1 hq
  obtain ⟨⟨a, c, m⟩, z⟩ := q
  unfold cont at hc
  obtain ⟨rfl, rfl⟩ := Prod.mk.inj hc
  have hP := hV.len
  have hvj := hV.each j hj
  have hoj := hO.each j hj
  have hszs := hV.view.sizes hs
  have hk : 0 ≤ (j : Int) ∧ (j : Int) < prod (szs r.v) := ⟨by omega, by omega⟩
  refine ⟨memK_good hs hV.view hk (by omega), ?_⟩
  show sumC t ((memK l r.v (j : Int) (prod l).toNat).map Int.toNat) = r.val.2.2.getD j default
  rw [memK_sum, ← hT.1]
  rcases hoj with h5 | h5
  · exact absurd h5 hne
  · exact h5.symm
/-- Equations with which a table agrees. -/
structure EqsOk (N : Nat) (t : List Int) (most : Int) (qs : List EqR) : Prop where
  n : 1 ≤ N ∧ N ≤ 48
  len : t.length = N
  tab : ∀ j, j < t.length → 0 ≤ t.getD j default ∧ t.getD j default ≤ most
  few : qs.length ≤ 8
  good : ∀ q ∈ qs, GoodE N q
  sum : ∀ q ∈ qs, sumC t (eqn q).1 = q.2
end Go.Proofs.Ytcmdemfhbekabaa
/-
  Plain: the solutions of equations found cell by cell in the order of the cells, with what is left of each equation.
-/
namespace Go.Sol
/-- The least value of the equations in which a cell is, plus 1; 0 if it is in none. -/
def roomR (L : List Eqn) (c : Nat) : Int := L.foldl (fun a q => if c ∈ q.1 then (if a = 0 ∨ q.2 + 1 < a then q.2 + 1 else a) else a) 0
theorem snoc_ind {α : Type} {p : List α → Prop} (h0 : p []) (h1 : ∀ l x, p l → p (l ++ [x])) : ∀ l, p l := fun l => by
  rw [← List.reverse_reverse l]
  induction l.reverse with
  | nil => exact h0
  | cons x r ih => rw [List.reverse_cons]; exact h1 _ _ ih
/-- How far a cell can go, where so much is left of each equation. -/
def gtF (t : List Int) (c : Nat) (a : Int) (L : List Eqn) : Int := L.foldl (fun a q => if c ∈ q.1 then min a (restQ t q) else a) a
def topF (L : List Eqn) (t : List Int) : Int := gtF t t.length (max 0 (roomR L t.length - 1)) L
/-- Whether the equations whose last cell has just got its number are right. -/
def fitB (L : List Eqn) (t : List Int) : Bool := L.all fun q => !decide (q.1.getLast? = some (t.length - 1)) || decide (restQ t q = 0)
def rs (L : List Eqn) : Nat → List Int → List (List Int)
  | 0, t => if L.all (fun q => decide (restQ t q = 0)) then [t] else []
  | k + 1, t => (List.range (topF L t + 1).toNat).flatMap fun (n : Nat) => if fitB L (t ++ [(n : Int)]) then rs L k (t ++ [(n : Int)]) else []
/-- Equations over cells below N, ascending. -/
structure Asc (N : Nat) (L : List Eqn) : Prop where
  asc : ∀ q ∈ L, q.1.Pairwise (· < ·)
  lt : ∀ q ∈ L, ∀ c ∈ q.1, c < N
  val : ∀ q ∈ L, 0 ≤ q.2
theorem Asc.once {N : Nat} {L : List Eqn} (h : Asc N L) : Once L := fun q hq => (h.asc q hq).imp fun h => Nat.ne_of_lt h
theorem getD_ge {t : List Int} {c : Nat} (h : t.length ≤ c) : t.getD c 0 = 0 := by
  rw [List.getD_eq_getElem?_getD, List.getElem?_eq_none h]; rfl
/-- A table that goes on from a shorter one. -/
structure From (L : List Eqn) (k : Nat) (t s : List Int) : Prop where
  len : s.length = t.length + k
  pre : s.take t.length = t
  pos : ∀ c, t.length ≤ c → 0 ≤ s.getD c 0 ∧ ((∀ q ∈ L, c ∉ q.1) → s.getD c 0 = 0)
  sum : ∀ q ∈ L, sumC s q.1 = q.2
end Go.Sol
/- Contracts of functions of the given program, and lemmas about plain lists and numbers: what the laws of this seat lean on. -/
namespace Go.Proofs.Ytcmdemfhbekabaa
open Go.Eng Go.Sol
attribute [local irreducible] opK wpList Code.wp Exit.then Exit.inBlock fnPost bodyPost Nx Calls Oper.wp Rd Rds Wr Ent Stars Blk Again Vec FnSpec wpMix QRun Stop Upto wpAt
/-! The reference's test of equations -/
/-! Rooms -/
theorem cells_bd {n : Nat} {l : List EqR} (hg : ∀ q ∈ l, GoodE n q) : ∀ q ∈ eqns l, 0 ≤ q.2 ∧ q.2 ≤ 1000000 := fun q hq => by
  obtain ⟨x, hx, rfl⟩ := List.mem_map.1 hq
  exact (hg x hx).val
end Go.Proofs.Ytcmdemfhbekabaa
/- Contracts of functions of the given program, and lemmas about plain lists and numbers: what the laws of this seat lean on. -/
namespace Go.Proofs.Ytcmdemfhbekabaa
open Go.Eng Go.Sol
attribute [local irreducible] opK wpList Code.wp Exit.then Exit.inBlock fnPost bodyPost Nx Calls Oper.wp Rd Rds Wr Ent Stars Blk Again Vec FnSpec wpMix QRun Stop Upto wpAt
/-! Plain: the reference's search finds the same, in the same order -/
theorem asc_eqns {n : Nat} {l : List EqR} (hg : ∀ q ∈ l, GoodE n q) : Asc n (eqns l) := by
  refine ⟨fun q hq => ?_, fun q hq c hc => ?_, fun q hq => (cells_bd hg q hq).1⟩
  · obtain ⟨x, hx, rfl⟩ := List.mem_map.1 hq
    exact toNat_asc (hg x hx).asc fun y hy => ((hg x hx).lt y hy).1
  · obtain ⟨x, hx, rfl⟩ := List.mem_map.1 hq
    have := (hg x hx).lt _ ((mem_eqn (hg x hx)).1 hc)
    omega
theorem once_eqns {n : Nat} {l : List EqR} (hg : ∀ q ∈ l, GoodE n q) : Once (eqns l) := (asc_eqns hg).once
theorem sols_sorted {n : Nat} {l : List EqR} (hg : ∀ q ∈ l, GoodE n q) : (solsOf n (eqns l)).Pairwise (ltU false (touch n (eqns l))) :=
  enum_sorted (once_eqns hg) (inv_start hg (touch_nd _ _) fun _ => Iff.rfl)
/-! Products -/
theorem le_roomOf {c : Nat} {v : Int} : ∀ (L : List Eqn), v ≤ roomOf L c ↔ v ≤ 1000001 ∧ ∀ q ∈ L, c ∈ q.1 → v ≤ q.2 + 1 := by
  refine snoc_ind ?_ ?_
  · exact ⟨fun h => ⟨h, fun q hq => (nomatch hq)⟩, fun h => h.1⟩
  · intro L q ih
    rw [room_snoc]
    by_cases hc : c ∈ q.1
    · rw [if_pos hc, Int.le_min, ih]
      refine ⟨fun h => ⟨h.1.1, fun p hp hcp => ?_⟩, fun h => ⟨⟨h.1, fun p hp => h.2 p (by simp [hp])⟩, h.2 q (by simp) hc⟩⟩
      rcases List.mem_append.1 hp with hp | hp
      · exact h.1.2 p hp hcp
      · rw [List.mem_singleton] at hp; subst hp; exact h.2
    · rw [if_neg hc, ih]
      refine ⟨fun h => ⟨h.1, fun p hp hcp => ?_⟩, fun h => ⟨h.1, fun p hp => h.2 p (by simp [hp])⟩⟩
      rcases List.mem_append.1 hp with hp | hp
      · exact h.2 p hp hcp
      · rw [List.mem_singleton] at hp; subst hp; exact absurd hcp hc
/-! The first table with the least, or the greatest, number at a cell -/
end Go.Proofs.Ytcmdemfhbekabaa
/- Contracts of functions of the given program, and lemmas about plain lists and numbers: what the laws of this seat lean on. -/
namespace Go.Proofs.Ytcmdemfhbekabaa
open Go.Eng Go.Sol
attribute [local irreducible] opK wpList Code.wp Exit.then Exit.inBlock fnPost bodyPost Nx Calls Oper.wp Rd Rds Wr Ent Stars Blk Again Vec FnSpec wpMix QRun Stop Upto wpAt
/-! The reference's reaches -/
theorem rows_of {A : Option Addr} {c : Nat} {o : List Row} {m I' : PH} (hm : PH.le m I') (h : Stars [Vec 25 1 A o.length c (o.map rowV), Stars (o.map rwR)] m) : RowsOf I' A c o := by
  obtain ⟨m1, h1le, h1⟩ := Stars.get 0 h rfl
  obtain ⟨m2, h2le, h2⟩ := Stars.get 1 h rfl
  refine ⟨Vec.sliceOf (h1le.trans hm) h1, fun r hr => ?_⟩
  obtain ⟨k, hk, he⟩ := List.mem_iff_getElem.1 hr
  obtain ⟨m3, h3le, h3⟩ := Stars.get k (r := rwR r) h2 (by rw [nthL_eq, List.getElem?_map, List.getElem?_eq_getElem hk, he]; rfl)
  exact Vec.sliceOf ((h3le.trans h2le).trans hm) h3
end Go.Proofs.Ytcmdemfhbekabaa
/- Contracts of functions of the given program, and lemmas about plain lists and numbers: what the laws of this seat lean on. -/
namespace Go.Proofs.Ytcmdemfhbekabaa
open Go.Eng Go.Sol
attribute [local irreducible] opK wpList Code.wp Exit.then Exit.inBlock fnPost bodyPost Nx Calls Oper.wp Rd Rds Wr Ent Stars Blk Again Vec FnSpec wpMix QRun Stop Upto wpAt
/-! Plain: made equations and their solutions -/
theorem asc_room : ∀ {xs : List Int} {a b : Int}, xs.Pairwise (· < ·) → (∀ x ∈ xs, a ≤ x ∧ x < b) → (xs.length : Int) ≤ max 0 (b - a)
  | [], a, b, _, _ => by simp; omega
  | x :: r, a, b, h, hb => by
    rw [List.pairwise_cons] at h
    have hx := hb x List.mem_cons_self
    have ih := asc_room (a := x + 1) (b := b) h.2 fun y hy => by have := h.1 y hy; have := hb y (List.mem_cons_of_mem _ hy); omega
    rw [List.length_cons]
    omega
theorem good_len {n : Nat} {q : EqR} (hg : GoodE n q) : q.1.2.2.length ≤ n := by
  have := asc_room hg.asc hg.lt
  omega
theorem allC_good {n : Nat} : ∀ {l : List EqR}, (∀ q ∈ l, GoodE n q) → (allC l).length ≤ l.length * n
  | [], _ => by simp [allC]
  | q :: l, hg => by
    have ih := allC_good (l := l) fun p hp => hg p (List.mem_cons_of_mem _ hp)
    have h1 := good_len (hg q List.mem_cons_self)
    show (q.1.2.2 ++ allC l).length ≤ _
    rw [List.length_append, List.length_cons, Nat.succ_mul]
    omega
theorem EqsOk.all {N : Nat} {t : List Int} {most : Int} {qs : List EqR} (h : EqsOk N t most qs) : (allC qs).length ≤ 384 := by
  have h1 := allC_good h.good
  have h2 := h.few
  have h3 := h.n
  exact Nat.le_trans h1 (Nat.mul_le_mul h2 h3.2)
theorem valid_of {N : Nat} {qs : List EqR} (hN : 1 ≤ N ∧ N ≤ 48) (hl : qs.length ≤ 1152) (hg : ∀ q ∈ qs, GoodE N q) : validB (N : Int) qs = true := by
  unfold validB
  rw [decide_eq_true (show 1 ≤ (N : Int) ∧ (N : Int) ≤ 48 by omega), decide_eq_true hl, Bool.true_and, Bool.true_and, List.all_eq_true]
  exact fun q hq => rightB_iff.2 (hg q hq)
theorem chk_of {N : Nat} {qs : List EqR} (hN : 1 ≤ N ∧ N ≤ 48) (hl : qs.length ≤ 1152) (hg : ∀ q ∈ qs, GoodE N q) : chkQ (N : Int) qs = if smallB N (eqns qs) = false then 1 else 0 := by
  unfold chkQ
  rw [valid_of hN hl hg, if_neg (by decide), Int.toNat_natCast]
/-- The table, 0 where no equation is. -/
def wantL (N : Nat) (U : List Nat) (t : List Int) : List Int := (List.range N).map fun c => if c ∈ U then t.getD c 0 else 0
theorem wantL_len (N : Nat) (U : List Nat) (t : List Int) : (wantL N U t).length = N := by simp [wantL]
theorem wantL_at {N : Nat} {U : List Nat} {t : List Int} {c : Nat} (hc : c < N) : (wantL N U t).getD c 0 = if c ∈ U then t.getD c 0 else 0 := by
  unfold wantL
  rw [List.getD_eq_getElem?_getD, List.getElem?_map, List.getElem?_range hc]; rfl
theorem wantL_out {N : Nat} {U : List Nat} {t : List Int} {c : Nat} (hc : ¬ c < N) : (wantL N U t).getD c 0 = 0 := getD_ge (by rw [wantL_len]; omega)
/-- Values of a table that agrees with all equations, 0 elsewhere: a solution. -/
theorem want_sol {N : Nat} {l : List EqR} {t : List Int} (hg : ∀ q ∈ l, GoodE N q) (hp : ∀ c ∈ touch N (eqns l), 0 ≤ t.getD c 0 ∧ t.getD c 0 ≤ 1000000) (hs : ∀ q ∈ l, sumC t (eqn q).1 = q.2) : wantL N (touch N (eqns l)) t ∈ solsOf N (eqns l) := by
  have hat : ∀ c ∈ touch N (eqns l), (wantL N (touch N (eqns l)) t).getD c 0 = t.getD c 0 := fun c hc => by
    rw [wantL_at (mem_touch.1 hc).1, if_pos hc]
  refine (mem_sols hg).2 ⟨wantL_len _ _ _, fun c hc => ?_, fun c hc => by rw [hat c hc]; exact hp c hc, fun q hq => ?_⟩
  · rw [zeros_at]
    by_cases hN : c < N
    · rw [wantL_at hN, if_neg hc]
    · exact wantL_out hN
  · obtain ⟨p, hpl, rfl⟩ := List.mem_map.1 hq
    rw [← show sumC t (eqn p).1 = (eqn p).2 from hs p hpl]
    refine sumC_congr fun c hc => hat c (mem_touch.2 ⟨?_, eqn p, hq, hc⟩)
    have := (hg p hpl).lt (c : Int) ((mem_eqn (hg p hpl)).1 hc)
    omega
theorem EqsOk.pos {N : Nat} {t : List Int} {qs : List EqR} (h : EqsOk N t 2 qs) (c : Nat) : 0 ≤ t.getD c 0 ∧ t.getD c 0 ≤ 1000000 := by
  by_cases hc : c < t.length
  · have := h.tab c hc
    exact ⟨this.1, by have := this.2; show t.getD c default ≤ _; omega⟩
  · rw [getD_ge (by omega)]; decide
theorem EqsOk.want {N : Nat} {t : List Int} {qs : List EqR} (h : EqsOk N t 2 qs) : wantL N (touch N (eqns qs)) t ∈ solsOf N (eqns qs) := want_sol h.good (fun c _ => h.pos c) h.sum
theorem EqsOk.some {N : Nat} {t : List Int} {qs : List EqR} (h : EqsOk N t 2 qs) : solsOf N (eqns qs) ≠ [] := fun he => by
  have := h.want; rw [he] at this; cases this
theorem sols_sum {N : Nat} {l : List EqR} (hg : ∀ q ∈ l, GoodE N q) {s : List Int} (hs : s ∈ solsOf N (eqns l)) : ∀ q ∈ l, sumC s (eqn q).1 = q.2 := fun q hq => ((mem_sols hg).1 hs).sum (eqn q) (List.mem_map.2 ⟨q, hq, rfl⟩)
/-! Made equations are given up -/
theorem eqs_of {A : Option Addr} {c : Nat} {qs : List EqR} {m m1 m2 I' : PH} (hm : PH.le m I') (h1 : Vec 105 2 A qs.length c (qs.flatMap eqC) m1) (hm1 : PH.le m1 m) (h2 : Stars (qs.map fun q => rowR q.1) m2) (hm2 : PH.le m2 m) : Eqs I' A c qs := by
  refine ⟨Vec.sliceN (hm1.trans hm) h1 fun x _ => eqC_len x, fun q hq => ?_⟩
  obtain ⟨k, hk, he⟩ := List.mem_iff_getElem.1 hq
  obtain ⟨m3, h3le, h3⟩ := Stars.get k (r := rowR q.1) h2 (by rw [nthL_eq, List.getElem?_map, List.getElem?_eq_getElem hk, he]; rfl)
  exact Vec.sliceOf ((h3le.trans hm2).trans hm) h3
theorem Nx.giveRows {C : Cx} {e : Env} {I : PH} {R : List Res} {K : Act → World → Prop} {A : Option Addr} {c : Nat} {o : List Row} {RR : List Res}
    (hR : Ent R (Stars (rowsR A c o) :: RR)) (h : ∀ I', PH.le I I' → RowsOf I' A c o → Nx C e I' RR K) : Nx C e I R K := by
  refine Nx.ent hR ?_
  refine Nx.freezeAt 0 rfl fun I1 m1 hI1 hm1 h1 => ?_
  exact h I1 hI1 (rows_of hm1 h1)
end Go.Proofs.Ytcmdemfhbekabaa
